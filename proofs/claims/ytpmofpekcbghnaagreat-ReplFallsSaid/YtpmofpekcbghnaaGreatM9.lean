/- Parts of a proof, 31 texts in one file. No condition. -/
import Derived.Test.YtpmofpekcbghnaaGreatM1
import Derived.Test.YtpmofpekcbghnaaGreatM2
import Derived.Test.YtpmofpekcbghnaaGreatM3
import Derived.Test.YtpmofpekcbghnaaGreatM4
import Derived.Test.YtpmofpekcbghnaaGreatM5
import Derived.Test.YtpmofpekcbghnaaGreatM6
import Derived.Test.YtpmofpekcbghnaaGreatM7
import Derived.Test.YtpmofpekcbghnaaGreatM8
set_option linter.unusedSimpArgs false
set_option linter.unusedVariables false
namespace Go.Proofs.YtpmofpekcbghnaaGreat
open Go Go.Kx
open List (getElem?_eq_getElem mem_of_getElem? length_append append_nil take_length)
theorem F51:Fun Tryz.prog 51 26 v51 c51 o51:=Fun.mkA Tryz.func51 Tryz.ntmps51
theorem F61:Fun Tryz.prog 61 4 v61 c61 o61:=Fun.mkA Tryz.func61 Tryz.ntmps61
theorem F111:Fun Tryz.prog 111 22 v111 c111 o111:=Fun.mkA Tryz.func111 Tryz.ntmps111
def PtL(p:Pt)(x:Nat)(A:Ky)(c:Nat)(B:Ky)(d:Nat)(ys zs:Kt):Kv:=[.blk x (eB p A c B d),.row (.slice B p.reps.length d) 50 7 p.reps.length zs,.row (.slice A p.isr.length c) 3 1 p.isr.length ys]
def PtG(G:Ks)(p:Pt)(x:Nat)(A:Ky)(c:Nat)(B:Ky)(d:Nat):Prop :=
 (∀ j u,(eB p A c B d)[j]?=some u→fB G ⟨x,j,none⟩=some u)∧SlV G IE 1 (.slice A p.isr.length c) p.isr∧SlV G (RE G) 7 (.slice B p.reps.length d) p.reps
theorem PtG.le{G G':Ks}(hg:Gle G G'){p:Pt}{x:Nat}{A:Ky}{c:Nat}{B:Ky}{d:Nat}(h:PtG G p x A c B d):PtG G' p x A c B d :=
 ⟨fun j u hu=>em hg (h.1 j u hu),h.2.1.le hg KO,SlR.le hg h.2.2⟩
theorem eU{p:Pt}{x:Nat}{A:Ky}{c:Nat}{B:Ky}{d:Nat}{ys zs:Kt}:eC (PtL p x A c B d ys zs):=ec (dW (dW dS))
theorem yj{p:Pt}{x:Nat}{A:Ky}{c:Nat}{B:Ky}{d:Nat}{ys zs:Kt}{G:Ks}{L:Kv}{D:KF}(hy:Cells IE 1 p.isr ys)(hz:Cells (RE G) 7 p.reps zs):
  Cv G (PtL p x A c B d ys zs) L D (fun G'=>PtG G' p x A c B d) :=
 jB (M1:=fun G'=>∀ j u,(eB p A c B d)[j]?=some u→fB G' (Addr.add ⟨x,0,none⟩ j)=some u) (fun L=>jx) fun G1 hg1 h1 =>
  jB (M1:=fun G'=>SlV G' (RE G1) 7 (.slice B p.reps.length d) p.reps) (fun L=>kA (by decide) (fa hz fun _ _ h=>RE.le hg1 h)) fun G2 hg2 h2 =>
   jB (M1:=fun G'=>SlV G' IE 1 (.slice A p.isr.length c) p.isr) (fun L=>kA (by decide) hy) fun G3 hg3 h3 =>
    ng ⟨fun j u hu=>by
     have:=em (hg2.trans hg3) (h1 j u hu)
     rwa [gB]at this,h3,h2.le hg3 fun _ _ h=>RE.le (hg2.trans hg3) h⟩
def nV(l:List Rp):Prop:=(gj l).Pairwise (· < ·)∧∀ r∈l,idI r.id=true
def uN(B:Ky):KI→Ky
 | none=>none
 | some k=>B.map (·.add (k * 7))
theorem zj(p:Pt)(x:Nat)(A:Ky)(c:Nat)(B:Ky)(d:Nat)(n:Int)(G:Ks)(hp:PtG G p x A c B d)(hn:I64 n)(hid:nV p.reps):
  FnS Tryz.prog 51 #[.pointer (some ⟨x,0,none⟩),.int .i64 n] G (.pointer (uN B (atR p.reps n))):=by
 obtain⟨h1,h2,h3⟩:=hp;have hbs:=sq p.reps n _ G h3 hn hid.1 hid.2;obtain⟨B0,d0,he,hd0,hmx,hA⟩:=h3;cases he;refine F51.fnS (by simp) (dY ?_);unfold c51;intros;refine gR 0 0 c51r0.eq_1 ?_;intros;refine gR 7 17 c51r1.eq_1 ?_;refine⟨_,⟨_,rfl,.g (h1 4 _ rfl)⟩,?_⟩;refine sI ?_;refine(hbs _ _).mono ?_;rintro r h' ⟨⟨j,rfl,hj,hk⟩,rfl⟩;refine sI ?_;intros;refine gR 17 18 c51r2.eq_1 ?_;intros;refine gC ?_
 refine gb (fun k1=>?_) (fun k1=>?_)
 ·have k1:atR p.reps n=none:=by simpa using k1
  intros;refine gR 0 0 c51r3.eq_1 ?_;intros;refine rW ?_;rw[k1];rfl
 ·obtain⟨k,hk1⟩:∃ k,atR p.reps n=some k:=Option.isSome_iff_exists.1 (by simpa using k1);have:=hk k hk1;subst this;obtain⟨r,hr,-⟩:=ij hk1;have hkl:=(List.getElem?_eq_some_iff.1 hr).1;obtain⟨a,cs,ha,-⟩:=hA j r hr;subst ha;intros;refine gN ?_;intros;refine gR 19 26 c51r4.eq_1 ?_;refine⟨_,⟨_,rfl,.g (h1 4 _ rfl)⟩,?_⟩;refine sI ?_;refine⟨by omega,a,rfl,?_⟩;refine sI ?_;intros;refine rW ?_;rw[hk1];rfl
def AtX(B:Ky)(l:List Rp)(_:Ks)(n:Int)(args:Array Value):Prop:=args=#[.pointer (uN B (atR l n))]
theorem mX(p:Pt)(x b:Nat)(A:Ky)(c:Nat)(B:Ky)(d:Nat)(G0:Ks)(hp:PtG G0 p x A c B d)(hid:nV p.reps)(hb:fB G0 ⟨b,0,none⟩=some (.pointer (some ⟨x,0,none⟩))):
  kZ Tryz.prog 111 #[.pointer (some ⟨b,0,none⟩)] p.isr (AtX B p.reps) G0:=by
 intro yl I Ix G L hG hn hI hIx hmo h0 hy L2 D;have hargs:(#[.func (.yield yl) #[] #[]]++#[.pointer (some ⟨b,0,none⟩)]:Array Value)=#[.func (.yield yl) #[] #[],.pointer (some ⟨b,0,none⟩)]:=rfl;rw[hargs];have hp:=hp.le hG;have hb:=em hG hb;obtain⟨A0,c0,he,hc0,hmx,hA⟩:=id hp.2.1;cases he
 refine(F111.calls (R:=fun _ h=>Gle G h.G∧(I p.isr.length h.G h.L∨∃ i,i < p.isr.length∧Ix i h.G h.L)) (by simp) hn (dY ?_) L2 D).mono ?_
 ·unfold c111;intros;refine gR 5 9 c111r0.eq_1 ?_;refine⟨_,⟨_,rfl,.g hb⟩,?_⟩;refine sI ?_;refine⟨_,⟨_,rfl,.g (hp.1 3 _ rfl)⟩,?_⟩;refine sI ?_;intros;refine dT ?_
  refine ej (fun e h=>∃ (t:Nat) (G':Ks) (L':Kv),(t≤p.isr.length∧Gle G G'∧eC L'∧I t G' L')∧e 11=.int .i64 t∧e 10=.int .i64 p.isr.length∧e 9=.slice A p.isr.length c∧e 0=.func (.yield yl) #[] #[]∧e 1=.pointer (some ⟨b,0,none⟩)∧h=⟨G',L',[]⟩) (fun e h=>p.isr.length - iv (e 11)) ?_ ?_
  ·exact⟨0,G,L,⟨Nat.zero_le _,.refl G,hn,h0⟩,eE,eE,eE,eE,eE,rfl⟩
  ·rintro e h ⟨t,G',L',⟨ht,hgg,hn',hI'⟩,e11,e10,e9,e0,e1,rfl⟩;refine dV [0,1,9,10,11] ?_;refine sJ5 @e0 @e1 @e9 @e10 @e11 ?_;intros;refine gR 0 0 c111r1.eq_1 ?_;intros;refine gC ?_;refine gb (fun k1=>?_) (fun k1=>?_)
   ·have htl:t < p.isr.length:=by have:=KM k1;omega
    have hw:=eW t c (by omega) hmx;obtain⟨n,hx⟩:∃ n,p.isr[t]?=some n:=⟨p.isr[t],getElem?_eq_getElem (by omega)⟩;have hb':=em hgg hb;have hp':=hp.le hgg;have hAg:=hA.le (E':=IE) hgg KO;intros;refine gN ?_;intros;refine gR 13 15 c111r2.eq_1 ?_;refine hAg.x_l1 hx rfl rfl ?_;rintro a1 ha1 u1 ⟨hu,hni⟩;cases hu;refine sI ?_;intros;refine gR 15 20 c111r3.eq_1 ?_;refine⟨_,⟨_,rfl,.g hb'⟩,?_⟩
    refine sI ?_;refine fK (zj p x A c B d n _ hp' hni hid _ _) ?_;refine .inr ⟨yl,rfl,?_⟩;refine(rn hy hx hgg rfl hI').mono ?_;rintro v h' ⟨G2,L3,rfl,hg2,hn2,hr⟩;rcases hr with⟨rfl,hr⟩ | ⟨rfl,hr⟩
    ·refine sI ?_;intros;refine gC ?_;intros;refine gN ?_;intros;refine gR2 21 22 c111r4.eq_1 @hw ?_;intros;refine dT ?_;refine eF ⟨⟨t+1,G2,L3,⟨by omega,hgg.trans hg2,hn2,hr⟩,eE,eE,eE,eE,eE,rfl⟩,?_⟩;refine sI ?_;omega
    ·refine sI ?_;intros;refine gC ?_;intros;refine dT ?_;refine ea (ee L3 rfl KJ hn2 ?_);exact⟨hgg.trans hg2,.inr ⟨t,htl,hr⟩⟩
   ·have htl:t=p.isr.length:=by have:=KN k1;omega
    subst htl;refine eg ?_;refine sI ?_;refine gD ?_;exact⟨[],rfl,⟨G',L',[]⟩,dX KJ,hn',hgg,.inl hI'⟩
 ·rintro v h' ⟨G',L',rfl,hn',hgg,hr⟩;exact⟨G',L',rfl,hgg,hn',hr⟩
theorem qZ(p:Pt)(x:Nat)(G:Ks):
  FnD Tryz.prog 61 #[.pointer (some ⟨x,0,none⟩)] G (fun G' r=>∃ b,r=.func (.func 111) #[] #[.pointer (some ⟨b,0,none⟩)]∧fB G' ⟨b,0,none⟩=some (.pointer (some ⟨x,0,none⟩))):=by
 refine F61.fnD (by simp) (dY ?_);unfold c61;intros;refine gR 0 0 c61r0.eq_1 ?_;intro b1 hb1;intros;refine dT ?_;refine eI jx ?_;rintro h' ⟨G1,rfl,hg1,hc1⟩;have e1:=hc1 0 _ rfl;rw[eV]at e1;intros;refine gR 3 4 c61r1.eq_1 ?_;intros;refine rW ?_;exact⟨b1,rfl,e1⟩
theorem F71:Fun Tryz.prog 71 60 v71 c71 o71:=Fun.mkA Tryz.func71 Tryz.ntmps71
def smW(r:Rp):Prop:=smL r.log.segs∧r.log.segs.length≤1000000∧r.eps.length≤1000000
theorem mP{l:List Rp}(h:∀ r∈l,smR r):∀ r∈l,smW r:=fun r hr=>by
 obtain⟨h1,h2,h3⟩:=h r hr;exact⟨h1,by omega,by omega⟩
theorem qh(p:Pt)(x:Nat)(A:Ky)(c:Nat)(B:Ky)(d:Nat)(ys zs:Kt)(n:Int)(h:H)(L:Kv)(hL:h.L.Perm (PtL p x A c B d ys zs++L))(hy:Cells IE 1 p.isr ys)(hz:Cells (RE h.G) 7 p.reps zs)(hn:I64 n)(hid:nV p.reps):
  eS Tryz.prog 51 #[.pointer (some ⟨x,0,none⟩),.int .i64 n] h fun r h'=>r=.pointer (uN B (atR p.reps n))∧h'=h :=
 jn eU F51.enters hL (yj hy hz) fun G' hg hp=>zj p x A c B d n G' hp hn hid L h.D
theorem vH:∀ (bs:KE) (nx:Int),(0≤nx∧nx≤1099511627777)→(∀ x∈bs,fM x=0)→0≤fV nx bs∧fV nx bs≤1099511627777
 | [],nx,h,_=>h
 | b :: bs,nx,h,hb=>by
  have:=iw.1 (xY (hb b (.head _))).2;exact vH bs (b.last+1) (by omega) fun x hx=>hb x (.tail _ hx)
theorem kw(l:Lg):0≤fg l∧fg l≤1099511627777:=by
 unfold fg;split
 ·rename_i h;obtain⟨s,e1,e2,e3,e4,e5⟩:=o4 h;have h1:=iw.1 (Gz (ib h).1);have h2:=iw.1 (gt.1 e5.1.1).2;obtain⟨r,hs⟩:=fD s;have h3:=vH (fi s) s.base (by omega) hs.ok;rw[e4];have h4:kf s=fV s.base (fi s):=rfl;omega
 ·omega
theorem nP(l:List Rp)(k:Nat)(r:Rp):∀ (is:KG) (m:Int),fT l k r m is≤m
 | [],m=>Int.le_refl _
 | n :: is,m=>by
  have h1:=nP l k r is (my l k r m n);have h2:my l k r m n≤m:=by
   unfold my;split
   ·split
    ·exact Int.le_refl _
    ·exact Int.min_le_left ..
   ·exact Int.le_refl _
  exact Int.le_trans h1 h2
theorem oo(p:Pt)(k:Nat)(y:Rp)(x:Nat)(A:Ky)(c:Nat)(B:Ky)(d:Nat)(ys zs:Kt):PtL (hO p k y) x A c B d ys zs=PtL p x A c B d ys zs:=by
 simp[PtL,eB,hO]
theorem Bw(a b:List Ep)(ae be:Int)(va vb:Value)(G:Ks)(ha:SEp G va a)(hb:SEp G vb b)(hla:a.length≤1000000)(hlb:b.length≤1000000):
  FnS Tryz.prog 126 #[va,.int .i64 ae,vb,.int .i64 be] G (.int .i64 (mN a b ae be)):=fun L D=>(zv a b ae be va vb G ha hb hla hlb L D).mono fun r h' ⟨⟨m,h1,h2⟩,h3⟩=>⟨by rw[h1,pf h2],h3⟩
theorem Bf{G:Ks}{l:List Rp}{g d:Nat}{k:Nat}{r:Rp}(h:SlV G (RE G) 7 (.slice (some ⟨g,0,none⟩) l.length d) l)(hr:l[k]?=some r):
  ∃ A c B d,RE G r (fk r A c B d)∧(∀ L D,LdN ⟨G,L,D⟩ (.pointer (some ⟨g,k * 7,none⟩)) (some 7) (.agg (fk r A c B d).toArray))∧∀ L D o u,(fk r A c B d)[o]?=some u→LdN ⟨G,L,D⟩ (.pointer (some ⟨g,k * 7+o,none⟩)) none u:=by
 obtain⟨A0,d0,he,-,-,hA⟩:=h;cases he;obtain⟨a,cs,ha,h1,h2,h4⟩:=hA k r hr;cases ha;have h4:∀ (j:Nat) (u:Value),cs[j]?=some u→fB G ⟨g,k * 7+j,none⟩=some u:=fun j u hu=>by have:=h4 j u hu;rwa [gB]at this
 have h20:=h2;obtain⟨A,c,B,d,rfl,-⟩:=h2;exact⟨A,c,B,d,h20,fun L D=>⟨_,_,rfl,rfl,h1,fun j u hu=>by rw[eV];exact .g (h4 j u hu)⟩,fun L D o u hu=>⟨_,rfl,.g (h4 o u hu)⟩⟩
theorem pI{α β:Type}(f:β→α→β)(b:β){l:List α}{k:Nat}{x:α}(h:l[k]?=some x):(l.take (k+1)).foldl f b=f ((l.take k).foldl f b) x:=by
 rw[List.take_add_one,h];simp
theorem kI(p:Pt)(x:Nat)(A:Ky)(c:Nat)(B:Ky)(d:Nat)(ys zs:Kt)(G:Ks)(hy:Cells IE 1 p.isr ys)(hz:Cells (RE G) 7 p.reps zs)(hid:nV p.reps)(hin:∀ n∈p.isr,n∈gj p.reps)(hsm:∀ r∈p.reps,smW r)(hI:ri p):
  FnO Tryz.prog 71 #[.pointer (some ⟨x,0,none⟩)] G (PtL p x A c B d ys zs) (fun G' L' r=>r=.tuple #[]∧∃ zs',L'=PtL (eN p) x A c B d ys zs'∧Cells (RE G') 7 (eN p).reps zs'):=by
 refine F71.fnO (by simp) eU (dY ?_);unfold c71;intros;refine gR 5 12 c71r0.eq_1 ?_;refine⟨_,dZ (cs:=eB p A c B d) (.head _) rfl,?_⟩;refine sI ?_;refine(qh p x A c B d ys zs p.leader _ [] (by simp) hy hz hI.2.1 hid).mono ?_;rintro _ _ ⟨rfl,rfl⟩;refine sI ?_;intro b2 hb2;refine ek [] _ rfl (by simp) ⟨rfl,rfl⟩ ?_;refine sI ?_;intros;try refine ed ?_
 have hsame:eN p=p→∀ e L,go none Tryz.prog 60 v71.1 v71.2 (fI o71 fun v h=>v=.tuple #[]∧∃ zs',h.L=PtL (eN p) x A c B d ys zs'∧Cells (RE h.G) 7 (eN p).reps zs') (.s .ret :: L) e ⟨G,.blk b2 [.pointer (uN B (atR p.reps p.leader))] :: PtL p x A c B d ys zs,[]⟩:=fun hr e L=>by
  refine ea (ee (PtL p x A c B d ys zs) rfl (.cons _ KJ) eU ⟨rfl,zs,?_,?_⟩)
  ·rw[hr]
  ·rw[hr];exact hz
 intros;refine gR 12 21 c71r1.eq_1 ?_;refine⟨_,dZ (cs:=eB p A c B d) (.tail _ (.head _)) rfl,?_⟩;refine sI ?_;refine gdD (fun k1=>?_) (fun k1=>?_)
 ·refine sI ?_;intros;refine gC ?_;exact hsame (by unfold eN;rw[if_pos k1]) _ _
 refine sI ?_;refine⟨_,dZ (.head _) rfl,?_⟩;refine sJ @zD ?_;cases hk:atR p.reps p.leader with
 | none =>
  rw[hk]at hsame;have hpt:uN B none=none:=rfl;refine sJ @hpt ?_;intros;refine gC ?_;refine hsame ?_ _ _;unfold eN;rw[if_neg k1,hk]
 | some k =>
  obtain⟨r,hr,-⟩:=ij hk;clear hsame;have hst:eN p=hO p k { r with high:=max r.high (fT p.reps k r (fg r.log) p.isr) }:=by
   unfold eN;rw[if_neg k1,hk];dsimp only;rw[hr];rfl
  rw[hst];clear hst;have hkl:=(List.getElem?_eq_some_iff.1 hr).1;intros;refine eI (iE (.tail _ (.tail _ (.head _))) (by omega)) ?_;rintro h' ⟨rfl,g,c9,he,-,-⟩;cases he;have hpt:uN (some ⟨g,0,none⟩) (some k)=some ⟨g,k * 7,none⟩:=congrArg some (gB _ _);rw[hpt];intros;refine gC ?_;intros;refine gN ?_;obtain⟨cs,hre,hcl,hld⟩:=hz.get hr;have hre0:=hre;have hsr:=hsm r (mem_of_getElem? hr)
  have hend:=iB r cs G hre hsr.1 (by have:=hsr.2.1;omega);obtain⟨A1,c1,B1,d1,rfl,-⟩:=hre;intros;refine gR 22 26 c71r2.eq_1 ?_;refine⟨_,dZ (.head _) rfl,?_⟩;refine sI ?_;refine⟨_,gJ (.tail _ (.tail _ (.head _))) hcl hld,?_⟩;unfold fk at hend ⊢;refine sI ?_;refine fK (hend _ _) ?_;intro b3 hb3;refine ek [] _ rfl (by simp) ⟨rfl,rfl⟩ ?_;refine sI ?_;intros;refine gR 26 27 c71r3.eq_1 ?_
  refine(qZ p x G _ _).mono ?_;rintro rr h' ⟨G1,rfl,hg1,b4,rfl,hb4⟩;refine sI ?_;intros;have hz1:=fa hz fun _ _ h=>RE.le hg1 h
  refine dU (h':=⟨G1,PtL p x A c (some ⟨g,0,none⟩) d ys zs++[.blk b3 [.int .i64 (fg r.log)],.blk b2 [.pointer (some ⟨g,k * 7,none⟩)]],[]⟩) (eO (List.perm_append_comm (l₁:=[_,_]))) ?_;refine Di eU (yj hy hz1) fun G2 hg2 hpt2=>?_
  refine tq ?_;have hb42:=em hg2 hb4;have hit:=mX p x b4 A c _ d G2 hpt2 hid hb42;refine sn (α:=Int) (fun t G' L'=>L'=[.blk b3 [.int .i64 (fT p.reps k r (fg r.log) (p.isr.take t))],.blk b2 [.pointer (some ⟨g,k * 7,none⟩)]]) (fun _ _ _ _=>False) (eE) F111.enters (ec (ec dS)) (fun _ _ _ _ _ h=>h) hit (fun G x args h=>by cases h;rfl) rfl ?_ ?_ ?_
  ·rintro yl t n args G' L' hx hgl rfl rfl _;obtain⟨i,y,hi,hiy,hyn⟩:=lb (hin n (mem_of_getElem? hx));have hpti:uN (some ⟨g,0,none⟩) (some i)=some ⟨g,i * 7,none⟩:=congrArg some (gB _ _);have hleast:fT p.reps k r (fg r.log) (p.isr.take (t+1))=my p.reps k r (fT p.reps k r (fg r.log) (p.isr.take t)) n:=pI _ _ hx;rw[hi,hpti];generalize fT p.reps k r (fg r.log) (p.isr.take t)=lt at *
   generalize fT p.reps k r (fg r.log) (p.isr.take (t+1))=lt' at *;refine sI ?_;intros;refine gR 0 0 c71r4.eq_1 ?_;intro bb;refine gD (rS ?_);intros;refine gR 29 31 c71r5.eq_1 ?_;refine⟨_,dZ (.tail _ (.head _)) rfl,?_⟩;refine sJ @EJ ?_;intros;refine gC ?_;refine gb (fun k2=>?_) (fun k2=>?_)
   ·have k2:¬ i=k:=fun h=>by subst h;simp at k2
    have hstep:lt'=min lt (mN y.eps r.eps (fg y.log) (fg r.log)):=by
     rw[hleast];unfold my;rw[hi];dsimp only;rw[if_neg k2,hiy];rfl
    have hsv:=(hpt2.le hgl).2.2;have hsy:=hsm y (mem_of_getElem? hiy);obtain⟨A2,c2,B2,d2,hre2,hl2,hf2⟩:=Bf hsv hiy;obtain⟨A3,c3,B3,d3,hre3,hl3,hf3⟩:=Bf hsv hr;have hendy:=iB y _ G' hre2 hsy.1 (by have:=hsy.2.1;omega);have hendr:=iB r _ G' hre3 hsr.1 (by have:=hsr.2.1;omega)
    have hmeet:FnS Tryz.prog 126 #[.slice B2 y.eps.length d2,.int .i64 (fg y.log),.slice B3 r.eps.length d3,.int .i64 (fg r.log)] G' (.int .i64 (mN y.eps r.eps (fg y.log) (fg r.log))):=by
     obtain⟨_,_,_,_,he2,_,hs2,_⟩:=hre2;obtain⟨_,_,_,_,he3,_,hs3,_⟩:=hre3;unfold fk at he2 he3;cases he2;cases he3;exact Bw _ _ _ _ _ _ _ hs2 hs3 (by have:=hsy.2.2;omega) (by have:=hsr.2.2;omega)
    unfold fk at hendy hendr hl2 hl3;intros;refine dT ?_;refine Aq _ KJ (by decide) ?_;refine sJ c71r6.eq_1 ?_;refine⟨_,dZ (.head _) rfl,?_⟩;refine sI ?_;refine⟨_,hf2 _ _ 5 _ rfl,?_⟩;refine sI ?_;refine⟨_,hl2 _ _,?_⟩;refine sI ?_;refine⟨_,dZ (.tail _ (.head _)) rfl,?_⟩;refine sI ?_;refine⟨_,hf3 _ _ 5 _ rfl,?_⟩;refine sI ?_;refine⟨_,dZ (.tail _ (.head _)) rfl,?_⟩;refine sI ?_;refine⟨_,hl3 _ _,?_⟩
    refine sI ?_;refine fK (hendy _ _) ?_;refine fK (hendr _ _) ?_;refine fK (hmeet _ _) ?_;rw[← hstep];refine sJ c71r7.eq_1 ?_;refine ek [] _ rfl (by simp) ⟨rfl,rfl⟩ ?_;refine sI ?_;intros;refine gN ?_;refine gD (rk _ KJ (ec (ec dS)) rfl)
   ·have k2:i=k:=by simp at k2;omega
    subst k2;have hstep:lt'=lt:=by
     rw[hleast];unfold my;rw[hi];dsimp only;rw[if_pos rfl]
    subst hstep;intros;refine gN ?_;refine gD (rk _ KJ (ec (ec dS)) rfl)
  ·rintro G' L' dd hgl rfl _;refine jg ?_;refine gD ⟨_,_,_,rfl,?_⟩;rw[take_length];have hlt:=nP p.reps k r p.isr (fg r.log);have hel:=kw r.log;generalize fT p.reps k r (fg r.log) p.isr=lt at *
   have hrow:Item.row (.slice (some ⟨g,0,none⟩) p.reps.length d) 50 7 p.reps.length zs∈PtL p x A c (some ⟨g,0,none⟩) d ys zs++[.blk b3 [.int .i64 lt],.blk b2 [.pointer (some ⟨g,k * 7,none⟩)]]:=.tail _ (.head _);have hz6:=hld 6 _ rfl;refine(?_:go none Tryz.prog 60 v71.1 v71.2 _ [.s (SC.rgT c71r8 c71r9)] _ _);intros;refine dT ?_;refine EP (by decide) ?_;refine sJ c71r8.eq_1 ?_
   refine⟨_,dZ (.tail _ (.tail _ (.tail _ (.tail _ (.head _))))) rfl,?_⟩;refine sI ?_;refine⟨_,dZ (.tail _ (.tail _ (.tail _ (.tail _ (.head _))))) rfl,?_⟩;refine sI ?_;refine⟨_,ff hrow hz6,?_⟩;refine sI ?_;refine⟨_,dZ (.tail _ (.tail _ (.tail _ (.head _)))) rfl,?_⟩;refine sJ c71r9.eq_1 ?_;refine fG [_] _ rfl (by simp;have:=hz.len;omega) ⟨rfl,rfl⟩ ?_;refine sI ?_
   refine gD ⟨[],rfl,⟨G1,PtL (hO p k { r with high:=max r.high lt }) x A c (some ⟨g,0,none⟩) d ys (eo zs (k * 7+6) [.int .i64 (max r.high lt)]),[]⟩,?_,eU,rfl,_,rfl,?_⟩
   ·rw[oo];exact dX (List.sublist_append_left _ _)
   ·refine Cells.setF hz1 hr (by simp) fun cs h hl=>?_
    obtain⟨A5,c5,B5,d5,rfl,q1,q2,q3,q4,q5⟩:=h;exact⟨A5,c5,B5,d5,rfl,q1,q2,q3,q4,by unfold I64 at q5 ⊢;show _≤max r.high lt∧max r.high lt≤_;omega⟩
  ·rintro ex i G' L' d _ _ h;exact h.elim
theorem F48:Fun Tryz.prog 48 8 v48 c48 o48:=Fun.mkA Tryz.func48 Tryz.ntmps48
theorem F116:Fun Tryz.prog 116 8 v116 c116 o116:=Fun.mkA Tryz.func116 Tryz.ntmps116
theorem F65:Fun Tryz.prog 65 37 v65 c65 o65:=Fun.mkA Tryz.func65 Tryz.ntmps65
theorem F80:Fun Tryz.prog 80 13 v80 c80 o80:=Fun.mkA Tryz.func80 Tryz.ntmps80
theorem F134:Fun Tryz.prog 134 15 v134 c134 o134:=Fun.mkA Tryz.func134 Tryz.ntmps134
theorem rb(l:KG)(v:Value)(G:Ks)(hl:SlV G IE 1 v l)(hb:l.length≤100000):FnO Tryz.prog 48 #[v] G [] (fun _ L' r=>ya IE 3 1 l L' r):=by
 refine F48.fnO (by simp) dS (dY ?_);have hl0:=hl;obtain⟨A,c,rfl,hc,hm,hA⟩:=hl;unfold c48;intros;refine gR 0 0 c48r0.eq_1 ?_;intros;refine gR 3 4 c48r1.eq_1 ?_;intros;refine gC ?_;refine gb (fun ht=>?_) (fun ht=>?_)
 ·intros;refine gR 0 0 c48r2.eq_1 ?_;intros;refine dT ?_;have hA0:l=[]:=by
   match l,hA with
   | [],_=>rfl
   | x :: xs,hA=>obtain⟨a,_,ha,_⟩:=hA 0 x rfl;subst ha;cases ht
  subst hA0;refine dU (eA none 3 1) ?_;refine ea (ee _ rfl KJ (dW dS) ?_);exact⟨[],.nil,rfl⟩
 ·intros;refine gN ?_;intros;refine gR 5 8 c48r3.eq_1 ?_;intro b hb';refine j5 (.inr ⟨⟨_,rfl⟩,rfl,rfl,rfl,rfl⟩) hl0 rfl IE1 ⟨by omega,by unfold maxLen;omega⟩ fun ys A c hc=>?_
  simp only[Nat.zero_add];refine sI ?_;intros;refine dT ?_;refine ea (ee _ rfl KJ (dW dS) ?_);exact⟨ys,hc,rfl⟩
theorem uB(l:List Rp)(v:Value)(G:Ks)(hl:SlV G (RE G) 7 v l)(hb:l.length≤100000):FnO Tryz.prog 116 #[v] G [] (fun _ L' r=>ya (RE G) 50 7 l L' r):=by
 refine F116.fnO (by simp) dS (dY ?_);have hl0:=hl;obtain⟨A,c,rfl,hc,hm,hA⟩:=hl;unfold c116;intros;refine gR 0 0 c116r0.eq_1 ?_;intros;refine gR 3 4 c116r1.eq_1 ?_;intros;refine gC ?_;refine gb (fun ht=>?_) (fun ht=>?_)
 ·intros;refine gR 0 0 c116r2.eq_1 ?_;intros;refine dT ?_;have hA0:l=[]:=by
   match l,hA with
   | [],_=>rfl
   | x :: xs,hA=>obtain⟨a,_,ha,_⟩:=hA 0 x rfl;subst ha;cases ht
  subst hA0;refine dU (eA none 50 7) ?_;refine ea (ee _ rfl KJ (dW dS) ?_);exact⟨[],.nil,rfl⟩
 ·intros;refine gN ?_;intros;refine gR 5 8 c116r3.eq_1 ?_;intro b hb';refine j5 (.inr ⟨⟨_,rfl⟩,rfl,rfl,rfl,rfl⟩) hl0 rfl RE1 ⟨by omega,by unfold maxLen;omega⟩ fun ys A c hc=>?_
  simp only[Nat.zero_add];refine sI ?_;intros;refine dT ?_;refine ea (ee _ rfl KJ (dW dS) ?_);exact⟨ys,hc,rfl⟩
def AA(q:Pt × Int)(x:Nat)(CE:Kv→Prop)(G':Ks)(L':Kv)(r:Value):Prop :=
 r=.int .i64 q.2∧∃ K C',L'=K++C'∧CE C'∧(q.2≠0→K=[])∧(q.2=0→∃ A c B d ys zs,K=PtL q.1 x A c B d ys zs∧Cells IE 1 q.1.isr ys∧Cells (RE G') 7 q.1.reps zs∧ri q.1)
def Em(G0:Ks)(g:Nat)(cap:Array Value)(p:Pt)(q:Pt × Int)(C0:Kv)(CE:Kv→Prop):Prop :=
 ∀ G x A c B d ys zs,Gle G0 G→Cells IE 1 p.isr ys→Cells (RE G) 7 p.reps zs→FnO Tryz.prog g (#[.pointer (some ⟨x,0,none⟩)]++cap) G (PtL p x A c B d ys zs++C0) (fun G' L' r=>AA q x CE G' L' r)
noncomputable def mc(p:Pt)(q:Pt × Int):Pt × Int:=if fA p=0 then(if q.2=0 then(q.1,0)else(jZ,q.2))else(jZ,fA p)
def PtR(q:Pt × Int)(G:Ks)(r:Value):Prop:=∃ cs,r=.tuple #[.agg cs.toArray,.int .i64 q.2]∧PE G q.1 cs
theorem gU(G:Ks)(e:Int):PtR (jZ,e) G (.tuple #[.agg #[.int .i64 0,.int .i64 0,.int .i64 0,.slice none 0 0,.slice none 0 0],.int .i64 e]) :=
 ⟨_,rfl,none,0,none,0,rfl,slN,slN,jh,jh,jh⟩
theorem lB{h:H}{b o k:Nat}{cs us:Kt}(hm:Item.blk b cs∈h.L)(hl:us.length=k)(hv:∀ j u,us[j]?=some u→cs[o+j]?=some u):LdN h (.pointer (some ⟨b,o,none⟩)) (some k) (.agg us.toArray) :=
 ⟨_,us,rfl,rfl,hl,fun j u hu=>by rw[eV];exact .blk hm (hv j u hu)⟩
theorem oe(p:Pt)(cs:Kt)(g:Nat)(cap:Array Value)(q:Pt × Int)(C0:Kv)(CE:Kv→Prop)(G:Ks)(hp:PE G p cs)(hsm:smP p)(hn0:eC C0)(hCE:∀ C,CE C→eC C)
  (hdo:okP p→Em G g cap p q C0 CE) :
  FnO Tryz.prog 65 #[.agg cs.toArray,.func (.func g) #[] cap] G C0 (fun G' L' r=>PtR (mc p q) G' r∧eC L'∧(CE L'∨(fA p≠0∧L'=C0))):=by
 have hchk:=kq p cs G hp hsm;have hp0:=hp;obtain⟨A,c,B,d,rfl,hI,hR,hi1,hi2,hi3⟩:=hp;have h2:=lI (s:=2) hn0;have h4:=lI (s:=4) hn0;refine F65.fnO (by simp) hn0 (dY ?_);unfold c65;unfold eB at hchk hp0 ⊢;intros;refine gr 0 0 ?_;refine sJ3 c65r0.eq_1 @h2 @h4 ?_;intros;refine gR 9 11 c65r1.eq_1 ?_;refine fK (hchk _ _) ?_;intros;refine gR 11 12 c65r2.eq_1 ?_;intros;refine gC ?_
 refine gb (fun k1=>?_) (fun k1=>?_)
 ·have k1:=KM k1;intros;refine gR 13 15 c65r3.eq_1 ?_;intros;refine ea (ee C0 rfl (.cons _ (.cons _ KJ)) hn0 ⟨?_,hn0,.inr ⟨k1,rfl⟩⟩);rw[mc,if_neg k1];exact gU _ _
 have k1:fA p=0:=by simpa using k1
 have hok:=jt k1;obtain⟨hs1,hs2,hs3⟩:=hsm;intros;refine gN ?_;intros;try refine ed ?_
 have hcr:=uB p.reps _ G hR (by omega);intros;refine dT ?_;refine Aq _ KJ (by decide) ?_;refine sJ c65r4.eq_1 ?_;refine(jd hcr _ _).mono ?_;rintro r h' ⟨G1,L',rfl,hg1,B1,d1,zs,rfl,-,hzs,rfl⟩;refine sI ?_;refine⟨ef hg1 (.cons _ KJ),?_⟩;refine(jd (rb p.isr _ G1 (hI.le (E':=IE) hg1 KO) (by omega)) _ _).mono ?_;rintro r h' ⟨G2,L',rfl,hg2,A2,c2,ys,rfl,-,hys,rfl⟩;have hg02:=hg1.trans hg2;refine sI ?_
 refine⟨ef hg02 (.cons _ (.cons _ KJ)),?_⟩;refine sJ c65r5.eq_1 ?_;intros;refine gR 23 26 c65r6.eq_1 ?_;intro x hx;refine sI ?_;have hz2:=fa hzs fun _ _ h=>RE.le hg02 h
 have hfn:=hdo hok G2 x A2 c2 B1 d1 ys zs hg02 hys hz2;intros;try refine ed ?_
 refine dU (h':=⟨G2,(PtL p x A2 c2 B1 d1 ys zs++C0)++[.reg 4 [.int .i64 0,.int .i64 0,.int .i64 0,.slice none 0 0,.slice none 0 0],.reg 2 [.int .i64 p.epoch,.int .i64 p.leader,.int .i64 p.least,.slice A2 p.isr.length c2,.slice B1 p.reps.length d1]],[]⟩) (eO (.cons _ ((List.Perm.swap _ _ _).trans (.cons _ (.cons _ (List.perm_append_comm (l₁:=[_,_]) (l₂:=C0))))))) ?_
 intros;refine gR 26 29 c65r7.eq_1 ?_;refine .inl ⟨g,cap,rfl,?_⟩;refine(hfn _ _).mono ?_;rintro r h' ⟨G3,L3,rfl,hg3,rfl,K,C',rfl,hce,hk1,hk2⟩;have hnc:=hCE C' hce;refine sI ?_;intros
 refine dU (h':=⟨G3,[.reg 4 [.int .i64 0,.int .i64 0,.int .i64 0,.slice none 0 0,.slice none 0 0],.reg 2 [.int .i64 p.epoch,.int .i64 p.leader,.int .i64 p.least,.slice A2 p.isr.length c2,.slice B1 p.reps.length d1]]++(K++C'),[]⟩) (eO List.perm_append_comm) ?_;intros;refine gR 29 30 c65r8.eq_1 ?_;intros;refine gC ?_;refine gb (fun k2=>?_) (fun k2=>?_)
 ·have k2:=KM k2;have:=hk1 k2;subst this;intros;refine gR 31 33 c65r9.eq_1 ?_;intros;refine ea (ee C' rfl (.cons _ (.cons _ KJ)) hnc ⟨?_,hnc,.inl hce⟩);rw[mc,if_pos k1,if_neg k2];exact gU _ _
 have k2:q.2=0:=by simpa using k2
 obtain⟨A4,c4,B4,d4,ys4,zs4,rfl,hy4,hz4,hi4⟩:=hk2 k2;intros;refine gN ?_;intros;try refine ed ?_
 refine eI (eh [_,_,_] _ (by decide) hz4) ?_;rintro h' ⟨G4,rfl,hg4,hv4⟩;refine eI (eh [_,_,_] _ (by decide) hy4) ?_;rintro h' ⟨G5,rfl,hg5,hv5⟩;intros;refine gR 33 37 c65r10.eq_1 ?_;refine⟨_,lB (cs:=eB q.1 A4 c4 B4 d4) (us:=eB q.1 A4 c4 B4 d4) (.tail _ (.tail _ (.head _))) rfl (fun j u h=>by rw[Nat.zero_add];exact h),?_⟩;unfold eB;refine sI ?_;intros
 refine ea (ee C' rfl (.cons _ (.cons _ (.cons _ KJ))) hnc ⟨?_,hnc,.inl hce⟩);rw[mc,if_pos k1,if_pos k2];exact⟨_,rfl,A4,c4,B4,d4,rfl,hv5,SlR.le hg5 (hv4.le (.refl _) fun _ _ h=>RE.le hg4 h),hi4⟩
noncomputable def ofQ(p:Pt)(n:Int)(f:Nat→Rp→Pt × Int):Pt × Int :=
 match atR p.reps n with
 | none=>(p,1)
 | some k=>match p.reps[k]? with
  | none=>(p,1)
  | some r=>f k r
theorem jc(p:Pt)(n:Int)(f:Pt→Nat→Rp→Pt × Int):ofP p n f=mc p (ofQ p n (f p)):=rfl
theorem DR{p:Pt}{n:Int}(f:Nat→Rp→Pt × Int)(h:atR p.reps n=none):ofQ p n f=(p,1):=by unfold ofQ;rw[h]
theorem mD{p:Pt}{n:Int}(f:Nat→Rp→Pt × Int){k:Nat}{r:Rp}(h:atR p.reps n=some k)(hr:p.reps[k]?=some r):ofQ p n f=f k r:=by
 unfold ofQ;rw[h];dsimp only;rw[hr]
def ou(G0:Ks)(g:Nat)(cap:Array Value)(p:Pt)(k:Nat)(q:Pt × Int):Prop :=
 ∀ G x A c ga d ys zs,Gle G0 G→Cells IE 1 p.isr ys→Cells (RE G) 7 p.reps zs→FnO Tryz.prog g (#[.pointer (some ⟨x,0,none⟩),.pointer (some ⟨ga,k * 7,none⟩)]++cap) G (PtL p x A c (some ⟨ga,0,none⟩) d ys zs) (fun G' L' r=>AA q x (· = []) G' L' r)
theorem fO{p:Pt}(h:okP p):nV p.reps:=⟨h.1.2.1.2.2,fun r hr=>(h.1.2.2.2.2 r hr).1.1⟩
theorem EG(p:Pt)(n:Int)(g:Nat)(cap:Array Value)(f:Nat→Rp→Pt × Int)(b4 b5:Nat)(G:Ks)(hok:okP p)(hn:I64 n)(h4:fB G ⟨b4,0,none⟩=some (.int .i64 n))(h5:fB G ⟨b5,0,none⟩=some (.func (.func g) #[] cap))
  (hdo:∀ k r,atR p.reps n=some k→p.reps[k]?=some r→ou G g cap p k (f k r)):Em G 134 #[.pointer (some ⟨b4,0,none⟩),.pointer (some ⟨b5,0,none⟩)] p (ofQ p n f) [] (· = []):=by
 intro G1 x A c B d ys zs hg hy hz;have h4:=em hg h4;have h5:=em hg h5;rw[append_nil];refine F134.fnO (by simp) eU (dY ?_);unfold c134;intros;refine gR 0 0 c134r0.eq_1 ?_;intros;refine gR 6 9 c134r1.eq_1 ?_;refine⟨_,⟨_,rfl,.g h4⟩,?_⟩;refine sI ?_;refine(qh p x A c B d ys zs n _ [] (by simp) hy hz hn (fO hok)).mono ?_;rintro _ _ ⟨rfl,rfl⟩;refine sI ?_;intros;try refine ed ?_
 cases hk:atR p.reps n with
 | none =>
  have hpt:uN B none=none:=rfl;rw[hpt];intros;refine gR2 9 10 c134r2.eq_1 @zD ?_;intros;refine gC ?_;intros;refine gR 0 0 c134r3.eq_1 ?_;intros;refine ea (ee [] rfl KL dS ⟨?_,[],[],rfl,rfl,fun _=>rfl,fun h=>?_⟩)
  ·rw[DR f hk];rfl
  ·rw[DR f hk]at h;cases h
 | some k =>
  obtain⟨r,hr,-⟩:=ij hk;have hkl:=(List.getElem?_eq_some_iff.1 hr).1;intros;refine eI (iE (.tail _ (.head _)) (by omega)) ?_;rintro h' ⟨rfl,ga,c9,he,-,-⟩;cases he;have hpt:uN (some ⟨ga,0,none⟩) (some k)=some ⟨ga,k * 7,none⟩:=congrArg some (gB _ _);rw[hpt];have hfn:=hdo k r hk hr G1 x A c ga d ys zs hg hy hz;intros;refine gR2 9 10 c134r2.eq_1 @zD ?_;intros;refine gC ?_;intros;refine gN ?_
  intros;refine gR 11 15 c134r4.eq_1 ?_;refine⟨_,⟨_,rfl,.g h5⟩,?_⟩;refine sI ?_;refine .inl ⟨g,cap,rfl,?_⟩;rw[← append_nil (PtL p x A c (some ⟨ga,0,none⟩) d ys zs)];refine(hfn _ _).mono ?_;rintro r' h' ⟨G3,L3,rfl,hg3,rfl,K,C',rfl,rfl,hk1,hk2⟩;rw[append_nil,append_nil];refine sI ?_;intros;have hnk:eC K:=by
   by_cases k2:(f k r).2=0
   ·obtain⟨A4,c4,B4,d4,ys4,zs4,rfl,-⟩:=hk2 k2;exact eU
   ·rw[hk1 k2];exact dS
  refine ea (ee K rfl KJ hnk ⟨?_,K,[],(append_nil K).symm,rfl,?_,?_⟩)
  ·rw[mD f hk hr];rfl
  ·rw[mD f hk hr];exact hk1
  ·rw[mD f hk hr];exact hk2
theorem Em.le{G0 G1:Ks}(hg:Gle G0 G1){g:Nat}{cap:Array Value}{p:Pt}{q:Pt × Int}{C0:Kv}{CE:Kv→Prop}(h:Em G0 g cap p q C0 CE):Em G1 g cap p q C0 CE :=
 fun G x A c B d ys zs h1=>h G x A c B d ys zs (hg.trans h1)
theorem ou.le{G0 G1:Ks}(hg:Gle G0 G1){g:Nat}{cap:Array Value}{p:Pt}{k:Nat}{q:Pt × Int}(h:ou G0 g cap p k q):ou G1 g cap p k q :=
 fun G x A c ga d ys zs h1=>h G x A c ga d ys zs (hg.trans h1)
theorem wj(p:Pt)(cs:Kt)(n:Int)(g:Nat)(cap:Array Value)(f:Nat→Rp→Pt × Int)(G:Ks)(hp:PE G p cs)(hsm:smP p)(hn:I64 n)
  (hdo:okP p→∀ k r,atR p.reps n=some k→p.reps[k]?=some r→ou G g cap p k (f k r)) :
  FnD Tryz.prog 80 #[.agg cs.toArray,.int .i64 n,.func (.func g) #[] cap] G (PtR (mc p (ofQ p n f))):=by
 have hp0:=hp;obtain⟨A,c,B,d,rfl,-⟩:=hp;refine F80.fnD (by simp) (dY ?_);unfold c80;unfold eB at hp0 ⊢;intros;refine gR 0 0 c80r0.eq_1 ?_;intro b4 hb4 b5 hb5;refine sI ?_;intros;refine eI (eP [_] _) ?_;rintro h' ⟨G1,rfl,hg1,f5⟩;refine eI (eP [_] _) ?_;rintro h' ⟨G2,rfl,hg2,f4⟩;have f5:=em hg2 (f5 0 _ rfl);have f4:=f4 0 _ rfl;rw[eV]at f4 f5;have hg02:=hg1.trans hg2
 have hch:=oe p _ 134 #[.pointer (some ⟨b4,0,none⟩),.pointer (some ⟨b5,0,none⟩)] (ofQ p n f) [] (· = []) G2 (hp0.le hg02) hsm dS (fun C h=>by rw[h];exact dS) fun hok =>
  EG p n g cap f b4 b5 G2 hok hn f4 f5 fun k r hk hr=>(hdo hok k r hk hr).le hg02
 intros;refine gR 8 13 c80r1.eq_1 ?_;refine(hch _ _).mono ?_;rintro r h' ⟨G3,L3,rfl,hg3,⟨cs3,rfl,hpe⟩,-,hL⟩;have hL:L3=[]:=by
  rcases hL with h | ⟨-,h⟩ <;> exact h
 subst hL;have hpe0:=hpe;obtain⟨A3,c3,B3,d3,rfl,-⟩:=hpe;unfold eB at hpe0 ⊢;refine sI ?_;intros;refine rW ?_;exact⟨_,rfl,hpe0⟩
theorem F37:Fun Tryz.prog 37 12 v37 c37 o37:=Fun.mkA Tryz.func37 Tryz.ntmps37
theorem F91:Fun Tryz.prog 91 45 v91 c91 o91:=Fun.mkH Tryz.func91 Tryz.ntmps91 (by kernel_rfl) (by kernel_rfl) s91 q91
theorem gW(p:Pt):(eN p).epoch=p.epoch∧(eN p).leader=p.leader∧(eN p).least=p.least∧(eN p).isr=p.isr∧(eN p).reps.length=p.reps.length:=by
 unfold eN;split
 ·exact⟨rfl,rfl,rfl,rfl,rfl⟩
 ·split
  ·exact⟨rfl,rfl,rfl,rfl,rfl⟩
  ·split
   ·exact⟨rfl,rfl,rfl,rfl,rfl⟩
   ·exact⟨rfl,rfl,rfl,rfl,List.length_set ..⟩
theorem kV{p:Pt}(h:ri p):ri (eN p):=by
 obtain⟨h1,h2,h3,-⟩:=gW p;unfold ri;rw[h1,h2,h3];exact h
theorem m9{p:Pt}{e:Int}(x:Nat)(G:Ks)(h:e≠0):AA (p,e) x (· = []) G [] (.int .i64 e):=⟨rfl,[],[],rfl,rfl,fun _=>rfl,fun h2=>absurd h2 h⟩
theorem vd{p:Pt}{x:Nat}{G:Ks}{A:Ky}{c:Nat}{B:Ky}{d:Nat}{ys zs:Kt}(hy:Cells IE 1 p.isr ys)(hz:Cells (RE G) 7 p.reps zs)(hi:ri p):
  AA (p,0) x (· = []) G (PtL p x A c B d ys zs) (.int .i64 0):=⟨rfl,_,[],(append_nil _).symm,rfl,fun h=>absurd rfl h,fun _=>⟨A,c,B,d,ys,zs,rfl,hy,hz,hi⟩⟩
theorem mW(l:KG)(n:Int)(A:Ky)(c:Nat)(ys:Kt)(h:H)(L:Kv)(hL:h.L.Perm (.row (.slice A l.length c) 3 1 l.length ys :: L))(hy:Cells IE 1 l ys):
  eS Tryz.prog 58 #[.slice A l.length c,.int .i64 n] h fun r h'=>r=.bool (decide (n∈l))∧h'=h :=
 jn (L1:=[_]) (M:=fun G=>SlV G IE 1 (.slice A l.length c) l) (dW dS) F58.enters hL (jB (M1:=fun G=>SlV G IE 1 (.slice A l.length c) l) (fun L=>kA (by decide) hy) fun G' _ h=>ng h) fun G' hg hp=>kz l n _ G' hp L h.D
theorem wR(p:Pt)(n:Int)(b3 k:Nat)(r:Rp)(G:Ks)(hok:okP p)(hsm:smP p)(hI:ri p)(hn:I64 n)(h3:fB G ⟨b3,0,none⟩=some (.int .i64 n))(hr:p.reps[k]?=some r):
  ou G 91 #[.pointer (some ⟨b3,0,none⟩)] p k (hY n p k r):=by
 intro G1 x A c ga d ys zs hg hy hz;have h3:=em hg h3;obtain⟨cs,hre,hcl,hld⟩:=hz.get hr;obtain⟨A1,c1,B1,d1,rfl,-⟩:=hre;rw[show(#[.pointer (some ⟨x,0,none⟩),.pointer (some ⟨ga,k * 7,none⟩)]++#[.pointer (some ⟨b3,0,none⟩)]:Array Value)=#[.pointer (some ⟨x,0,none⟩),.pointer (some ⟨ga,k * 7,none⟩),.pointer (some ⟨b3,0,none⟩)]from rfl];refine F91.fnO (by simp) eU (dY ?_);unfold c91
 intros;refine gR 0 0 c91r0.eq_1 ?_;intros;refine dT ?_;intros;refine gR 7 12 c91r1.eq_1 ?_;refine⟨_,ff (.tail _ (.head _)) (hld 1 _ rfl),?_⟩;refine sI ?_;intros;refine gC ?_;refine gb (fun k1=>?_) (fun k1=>?_)
 ·have k1:r.up=false:=by simpa using k1
  intros;refine gR 0 0 c91r2.eq_1 ?_;intros;refine ea (ee [] rfl KL dS ?_);rw[hY,if_pos k1];exact m9 x _ (by decide)
 have k1:¬ r.up=false:=by simpa using k1
 intros;refine dT ?_;refine lk _ KJ (by decide) ?_;refine sJ c91r3.eq_1 ?_;refine⟨_,dZ (cs:=eB p A c (some ⟨ga,0,none⟩) d) (.head _) rfl,?_⟩;refine sI ?_;refine⟨_,⟨_,rfl,.g h3⟩,?_⟩;refine sI ?_
 (refine fK (mW p.isr n A c ys _ _ (List.perm_append_comm (l₁:=[_,_]) (l₂:=[_])) hy) ?_)
 intros;refine gC ?_;refine gb (fun k2=>?_) (fun k2=>?_)
 ·have k2:n∉p.isr:=by simpa using k2
  intros;refine gR 0 0 c91r4.eq_1 ?_;intros;refine ea (ee [] rfl KL dS ?_);rw[hY,if_neg k1,if_pos k2];exact m9 x _ (by decide)
 have k2:n∈p.isr:=by simpa using k2
 intros;refine gR 22 28 c91r5.eq_1 ?_;refine⟨_,dZ (cs:=eB p A c (some ⟨ga,0,none⟩) d) (.head _) rfl,?_⟩;refine sI ?_;intros;refine gC ?_;refine gbD (fun k3=>?_) (fun k3=>?_)
 ·intros;refine gR 0 0 c91r6.eq_1 ?_;intros;refine ea (ee [] rfl KL dS ?_);rw[hY,if_neg k1,if_neg (fun h=>h k2),if_pos k3];exact m9 x _ (by decide)
 have hep:0≤p.epoch∧p.epoch≤1048576:=by have:=hok.1.1;simpa [idI]using this
 have hw:IntKind.i64.wrap (p.epoch+1)=p.epoch+1:=by rw[ei] <;> omega
 have hq:hY n p k r=(eN { p with epoch:=p.epoch+1,leader:=n },0):=by rw[hY,if_neg k1,if_neg (fun h=>h k2),if_neg k3]
 rw[hq];have hi2:ri { p with epoch:=p.epoch+1,leader:=n }:=⟨by unfold I64;show _≤p.epoch+1∧p.epoch+1≤_;omega,hn,hI.2.2⟩;have hraise:=fun zs' hz'=>kI { p with epoch:=p.epoch+1,leader:=n } x A c (some ⟨ga,0,none⟩) d ys zs' G1 hy hz' (fO (p:=p) hok) hok.2.1.2 (mP hsm.1) hi2
 have hraise:=hraise zs hz;generalize hp2:({ p with epoch:=p.epoch+1,leader:=n }:Pt)=p2 at *;intros;refine gN ?_;intros;try refine ed ?_
 refine eL (fun e h=>e 0=.pointer (some ⟨x,0,none⟩)∧h=⟨G1,PtL p2 x A c (some ⟨ga,0,none⟩) d ys zs,[]⟩) ?_ ?_
 ·intros;refine dT ?_;refine zK _ KL (by decide) ?_;refine sJ c91r7.eq_1 ?_;refine⟨?_,?_⟩
  ·refine⟨_,dZ (cs:=eB p A c (some ⟨ga,0,none⟩) d) (.head _) rfl,?_⟩;refine sJ @hw ?_;refine⟨ef KO KL,?_⟩;refine sJ @hw ?_;refine⟨?_,?_⟩
   ·refine⟨_,⟨_,rfl,.g h3⟩,?_⟩;refine sJ @hw ?_;refine⟨ef KO KL,?_⟩;refine sJ @hw ?_;refine ek [] _ rfl (by simp[eB,eo]) ⟨rfl,rfl⟩ ?_;refine sJ @hw ?_;refine⟨ef KO KL,?_⟩;refine sJ @hw ?_;refine ek [] _ rfl (by simp[eB,eo]) ⟨rfl,rfl⟩ ?_;refine sJ @hw ?_;refine⟨ef KO KL,?_⟩;refine sJ @hw ?_;exact eF ⟨eE,by rw[← hp2];rfl⟩
   ·refine ek [] _ rfl (by simp[eB,eo]) ⟨rfl,rfl⟩ ?_;refine sJ @hw ?_;refine⟨ef KO KL,?_⟩;refine sJ @hw ?_;refine⟨_,⟨_,rfl,.g h3⟩,?_⟩;refine sJ @hw ?_;refine⟨ef KO KL,?_⟩;refine sJ @hw ?_;refine ek [] _ rfl (by simp[eB,eo]) ⟨rfl,rfl⟩ ?_;refine sJ @hw ?_;refine⟨ef KO KL,?_⟩;refine sJ @hw ?_;exact eF ⟨eE,by rw[← hp2];rfl⟩
  ·refine⟨_,⟨_,rfl,.g h3⟩,?_⟩;refine sJ @hw ?_;refine⟨ef KO KL,?_⟩;refine sJ @hw ?_;refine⟨_,dZ (cs:=eB p A c (some ⟨ga,0,none⟩) d) (.head _) rfl,?_⟩;refine sJ @hw ?_;refine⟨ef KO KL,?_⟩;refine sJ @hw ?_;refine ek [] _ rfl (by simp[eB,eo]) ⟨rfl,rfl⟩ ?_;refine sJ @hw ?_;refine⟨ef KO KL,?_⟩;refine sJ @hw ?_;refine ek [] _ rfl (by simp[eB,eo]) ⟨rfl,rfl⟩ ?_;refine sJ @hw ?_;refine⟨ef KO KL,?_⟩
   refine sJ @hw ?_;exact eF ⟨eE,by rw[← hp2];rfl⟩
 rintro e h ⟨e0,rfl⟩;refine dV [0] ?_;refine sJ @e0 ?_;intros;refine gR 43 45 c91r8.eq_1 ?_;rw[← append_nil (PtL p2 x A c (some ⟨ga,0,none⟩) d ys zs)];refine(hraise _ _).mono ?_;rintro r' h' ⟨G2,L',rfl,hg2,rfl,zs',rfl,hz'⟩;rw[append_nil];refine sI ?_;intros;refine gR 0 0 c91r9.eq_1 ?_;intros;refine ea (ee _ rfl KJ eU (vd ?_ hz' (kV hi2)));rw[(gW p2).2.2.2.1,← hp2];exact hy
theorem pt(p:Pt)(cs:Kt)(n:Int)(G:Ks)(hp:PE G p cs)(hsm:smP p)(hn:I64 n):FnD Tryz.prog 37 #[.agg cs.toArray,.int .i64 n] G (PtR (ofP p n (hY n))):=by
 have hp0:=hp;obtain⟨A,c,B,d,rfl,-,-,hI⟩:=hp;refine F37.fnD (by simp) (dY ?_);unfold c37;unfold eB at hp0 ⊢;intros;refine gR 0 0 c37r0.eq_1 ?_;intro b3 hb3;refine sI ?_;intros;refine eI (eP [_] _) ?_;rintro h' ⟨G1,rfl,hg1,f3⟩;have f3:=f3 0 _ rfl;rw[eV]at f3;have hof:=wj p _ n 91 #[.pointer (some ⟨b3,0,none⟩)] (hY n p) G1 (hp0.le hg1) hsm hn fun hok k r _ hr=>wR p n b3 k r G1 hok hsm hI hn f3 hr
 rw[← jc]at hof;intros;refine gR 6 12 c37r1.eq_1 ?_;refine⟨_,⟨_,rfl,.g f3⟩,?_⟩;refine sI ?_;refine(hof _ _).mono ?_;rintro r h' ⟨G2,rfl,hg2,cs2,rfl,hpe⟩;have hpe0:=hpe;obtain⟨A2,c2,B2,d2,rfl,-⟩:=hpe;unfold eB at hpe0 ⊢;refine sI ?_;intros;refine rW ?_;exact⟨_,rfl,hpe0⟩
theorem F140:Fun Tryz.prog 140 42 v140 c140 o140:=Fun.mkA Tryz.func140 Tryz.ntmps140
theorem F87:Fun Tryz.prog 87 15 v87 c87 o87:=Fun.mkA Tryz.func87 Tryz.ntmps87
theorem F141:Fun Tryz.prog 141 7 v141 c141 o141:=Fun.mkA Tryz.func141 Tryz.ntmps141
theorem F44:Fun Tryz.prog 44 12 v44 c44 o44:=Fun.mkA Tryz.func44 Tryz.ntmps44
theorem F102:Fun Tryz.prog 102 36 v102 c102 o102:=Fun.mkA Tryz.func102 Tryz.ntmps102
theorem nJ{G:Ks}{L:Kv}{D:KF}{A:Ky}{n m c et sz:Nat}{ys:Kt}(hm:m≤n):jf ⟨G,.row (.slice A n c) et sz n ys :: L,D⟩ ⟨G,.row (.slice A m c) et sz m (ys.take (m * sz)) :: L,D⟩:=fun β w hs=>by
 have h:=kM (L1:=[]) (it':=.row (.slice A m c) et sz m (ys.take (m * sz))) (w':=w) hs rfl rfl rfl (Nat.le_refl _) (fun _ _ _=>rfl) (by
   obtain⟨hl,hok⟩:=hs.l _ (List.mem_cons_self ..)
   have hms:m * sz≤n * sz:=Nat.mul_le_mul_right _ hm
   refine⟨by rw[List.length_take,hl];omega,?_⟩
   rcases hok with⟨A0,he,h0⟩ | ⟨g,cap,cur,he,h1,h2,h3,h4,h5,h6⟩
   · cases he
     exact .inl ⟨A, by have : m = 0 := by omega
                       subst this;rfl,by omega⟩
   · cases he
     refine .inr ⟨g,c,cur,rfl,h1,h2,by omega,h4,h5,?_⟩
     rw[← h6,List.take_take,Nat.min_eq_left hms]) (fun b hb=>.inl (by
   cases A <;> exact hb))
 exact⟨h.1,h.2,rfl,fun s cs hh=>⟨cs,by simpa using hh⟩⟩
theorem zw{l:KG}{i:Nat}{v:Int}(h:i < l.length):(l.set i v).take (i+1)=l.take i++[v]:=by
 rw[List.take_add_one,List.getElem?_set_self h];congr 1;exact List.take_set_of_le (Nat.le_refl _)
theorem uy(l:KG)(p:Int→Bool)(f:Nat)(cap:Array Value)(A:Ky)(c:Nat)(ys:Kt)(G:Ks)(hy:Cells IE 1 l ys)(hf:∀ G',Gle G G'→∀ s,s∈l→I64 s→FnS Tryz.prog f (#[.int .i64 s]++cap) G' (.bool (p s))):
  FnO Tryz.prog 140 #[.slice A l.length c,.func (.func f) #[] cap] G [.row (.slice A l.length c) 3 1 l.length ys] (fun _ L' r=>∃ A' c' ys',r=.slice A' (l.filter fun s=>!p s).length c'∧Cells IE 1 (l.filter fun s=>!p s) ys'∧L'=[.row r 3 1 (l.filter fun s=>!p s).length ys']):=by
 refine F140.fnO (by simp) (dW dS) (dY ?_);unfold c140;intros;refine gR 0 0 c140r0.eq_1 ?_;intros;refine gR 8 11 c140r1.eq_1 ?_
 refine(jn (L1:=[_]) (L:=[]) (R:=fun r=>r=.int .i64 (gl p l 0)) (M:=fun G=>SlV G IE 1 (.slice A l.length c) l) (dW dS) F109.enters (List.Perm.refl _) (jB (M1:=fun G=>SlV G IE 1 (.slice A l.length c) l) (fun L=>kA (by decide) hy) fun G' _ h=>ng h) fun G' hg hp=>oz l p f cap _ G' hp (hf G' hg) [] []).mono ?_;rintro _ _ ⟨rfl,rfl⟩;refine sI ?_;intros;try refine ed ?_
 rcases lu p l 0 with⟨q1,q2⟩ | ⟨k,x,q1,q2,q3,q4⟩
 ·rw[q1];intros;try refine ed ?_
  have hd:decide ((-1:Int)=-1)=true:=by decide
  intros;refine gR2 11 12 c140r2.eq_1 @hd ?_;intros;refine gC ?_;have hfl:(l.filter fun s=>!p s)=l:=List.filter_eq_self.2 fun s hs=>by rw[q2 s hs];rfl
  intros;refine gR 13 14 c140r3.eq_1 ?_;intros;refine ea (ee _ rfl KJ (dW dS) ⟨A,c,ys,?_,?_,?_⟩)
  ·rw[hfl];rfl
  ·rw[hfl];exact hy
  ·rw[hfl];rfl
 rw[q1,Nat.zero_add];have hkl:=(List.getElem?_eq_some_iff.1 q2).1;refine eI (iE (.head _) (by omega)) ?_;rintro h' ⟨rfl,g,c9,he,hlc,hmx⟩;cases he;unfold maxLen at hmx;have hd:decide ((k:Int)=-1)=false:=by simp
 have hw0:IntKind.i64.wrap ((k:Int)+1)=(k:Int)+1:=by rw[ei] <;> omega
 intros;refine gR2 11 12 c140r2.eq_1 @hd ?_;intros;refine gC ?_;intros;refine gN ?_;intros;refine gR2 14 16 c140r4.eq_1 @hw0 ?_;intros;refine dT ?_
 refine ej (fun e h=>∃ (i j:Nat) (cur:KG) (ys':Kt),(i < j∧j≤l.length)∧(cur.length=l.length∧Cells IE 1 cur ys')∧(cur.take i=(l.take j).filter (fun s=>!p s)∧cur.drop j=l.drop j)∧e 5=.int .i64 i∧e 6=.int .i64 j∧e 0=.slice (some ⟨g,0,none⟩) l.length c∧e 1=.func (.func f) #[] cap∧h=⟨G,[.row (.slice (some ⟨g,0,none⟩) l.length c) 3 1 l.length ys'],[]⟩) (fun e h=>l.length - iv (e 6)) ?_ ?_
 ·refine⟨k,k+1,l,ys,⟨by omega,by omega⟩,⟨rfl,hy⟩,⟨?_,rfl⟩,eE,eE,eE,eE,rfl⟩;rw[eR q2,List.filter_append,List.filter_eq_self.2 (fun s hs=>by rw[q4 s hs];rfl)];simp[q3]
 rintro e h ⟨i,j,cur,ys',⟨hij,hjn⟩,⟨hcl,hy'⟩,⟨ht,hdr⟩,e5,e6,e0,e1,rfl⟩;refine dV [0,1,5,6] ?_;refine sJ4 @e0 @e1 @e5 @e6 ?_;intros;refine gR 16 19 c140r5.eq_1 ?_;intros;refine gC ?_;refine gb (fun h1=>?_) (fun h1=>?_)
 ·have h1:j < l.length:=by have:=KM h1;omega
  have hw:IntKind.i64.wrap ((j:Int)+1)=(j:Int)+1:=by rw[ei] <;> omega
  obtain⟨v,hv⟩:∃ v,l[j]?=some v:=⟨l[j],getElem?_eq_getElem h1⟩;have hcv:cur[j]?=some v:=by
   have:(cur.drop j)[0]?=(l.drop j)[0]?:=by rw[hdr]
   simpa [List.getElem?_drop,hv]using this
  obtain⟨cs,⟨rfl,hvi⟩,-,hld⟩:=hy'.get hcv;have hld:=hld 0 _ rfl;rw[Nat.add_zero]at hld;have hlj:ys'.length=l.length * 1:=by rw[hy'.len,hcl]
  have htk:=eR hv;have hbk:∀ (cur2:KG) (ys2:Kt) (i2:Nat) (e:Env),(i2 < j+1)→cur2.length=l.length→Cells IE 1 cur2 ys2→cur2.take i2=(l.take (j+1)).filter (fun s=>!p s)→cur2.drop (j+1)=l.drop (j+1)→e 5=.int .i64 i2→e 6=.int .i64 j→e 0=.slice (some ⟨g,0,none⟩) l.length c→e 1=.func (.func f) #[] cap →
    go none Tryz.prog 42 v140.1 v140.2 (fI o140 fun v h=>∃ A' c' ys',v=.slice A' (l.filter fun s=>!p s).length c'∧Cells IE 1 (l.filter fun s=>!p s) ys'∧h.L=[.row v 3 1 (l.filter fun s=>!p s).length ys'])
    [Td.s (SC.reg false c140r10),Td.l fun e' h'=>(∃ (i j:Nat) (cur:KG) (ys':Kt),(i < j∧j≤l.length)∧(cur.length=l.length∧Cells IE 1 cur ys')∧(cur.take i=(l.take j).filter (fun s=>!p s)∧cur.drop j=l.drop j)∧e' 5=.int .i64 i∧e' 6=.int .i64 j∧e' 0=.slice (some ⟨g,0,none⟩) l.length c∧e' 1=.func (.func f) #[] cap∧h'=⟨G,[.row (.slice (some ⟨g,0,none⟩) l.length c) 3 1 l.length ys'],[]⟩)∧l.length - iv (e' 6) < l.length - j,Td.b 0,Td.s ((SC.reg false c140r11).seq ((SC.reg false c140r12).seq SC.ret))] e ⟨G,[.row (.slice (some ⟨g,0,none⟩) l.length c) 3 1 l.length ys2],[]⟩:=fun cur2 ys2 i2 e a1 a2 a3 a4 a5 b5 b6 b0 b1=>by
   refine dV [0,1,5,6] ?_;refine sJ4 @b0 @b1 @b5 @b6 ?_;intros;refine gR2 20 22 c140r10.eq_1 @hw ?_;intros;refine dT ?_;refine eF ⟨⟨i2,j+1,cur2,ys2,⟨a1,by omega⟩,⟨a2,a3⟩,⟨a4,a5⟩,eE,eE,eE,eE,rfl⟩,?_⟩;refine sI ?_;omega
  intros;refine gN ?_;intros;refine gR 22 26 c140r6.eq_1 ?_;refine⟨by omega,_,rfl,?_⟩;refine sJ @Nat.zero_add ?_;refine⟨_,ff (.head _) hld,?_⟩;refine sI ?_;intros;refine gR 26 29 c140r7.eq_1 ?_;refine .inl ⟨f,cap,rfl,?_⟩;refine fK (hf G (.refl G) v (mem_of_getElem? hv) hvi _ _) ?_;intros;refine gC ?_;refine gb (fun h2=>?_) (fun h2=>?_)
  ·have h2:p v=false:=by simpa using h2
   have hwi:IntKind.i64.wrap ((i:Int)+1)=(i:Int)+1:=by rw[ei] <;> omega
   intros;refine gR 30 34 c140r8.eq_1 ?_;refine⟨by omega,_,rfl,?_⟩;refine sJ @Nat.zero_add ?_;refine fG [] _ rfl (by simp;omega) ⟨rfl,rfl⟩ ?_;refine sI ?_;intros;refine gR2 34 36 c140r9.eq_1 @hwi ?_;intros;refine gN ?_
   refine hbk (cur.set i v) _ (i+1) _ (by omega) (by rw[List.length_set,hcl]) (Cells.set hy' (by omega) ⟨rfl,hvi⟩ rfl) ?_ ?_ (by((refine sI ?_;try with_reducible exact True.intro))) (by((refine sI ?_;try with_reducible exact True.intro))) (by((refine sI ?_;try with_reducible exact True.intro))) (by((refine sI ?_;try with_reducible exact True.intro)))
   ·rw[zw (by omega),ht,htk,List.filter_append];simp[h2]
   ·rw[List.drop_set_of_lt (by omega)];have:(cur.drop j).drop 1=(l.drop j).drop 1:=by rw[hdr]
    simpa [List.drop_drop]using this
  ·have h2:p v=true:=by simpa using h2
   intros;refine gN ?_;refine hbk cur ys' i _ (by omega) hcl hy' ?_ ?_ (by((refine sI ?_;try with_reducible exact True.intro))) (by((refine sI ?_;try with_reducible exact True.intro))) (by((refine sI ?_;try with_reducible exact True.intro))) (by((refine sI ?_;try with_reducible exact True.intro)))
   ·rw[ht,htk,List.filter_append];simp[h2]
   ·have:(cur.drop j).drop 1=(l.drop j).drop 1:=by rw[hdr]
    simpa [List.drop_drop]using this
 ·have h1:j=l.length:=by have:=KN h1;omega
  subst h1;rw[take_length]at ht;refine eg ?_;refine sI ?_;intros;refine gR2 36 39 c140r11.eq_1 @Iq ?_;have hne:¬ c=i:=by omega
  have hl2:(l.filter fun s=>!p s).length=i:=by rw[← ht,List.length_take];omega
  have hzl:(Builtin.zeroCells #[.int .i64 0] (l.length - i)).toList.length=l.length - i:=by rw[Array.length_toList,size_zeroCells];simp
  have hyl:ys'.length=l.length:=by rw[hy'.len,hcl,Nat.mul_one]
  refine⟨by omega,?_⟩;rw[if_neg hne,Nat.zero_add,Nat.mul_one];generalize hzs:(Builtin.zeroCells #[.int .i64 0] (l.length - i)).toList=zz at hzl;refine⟨_,_,_,_,rfl,.inr ⟨g,i,⟨rfl,by simp[Value.oneCell']⟩,by rw[hzs];exact .row [] (by omega)⟩,?_⟩;refine sI ?_;intros;refine gR 39 42 c140r12.eq_1 ?_;refine⟨by omega,?_⟩;refine sI ?_;intros;refine dU (nJ (m:=i) (by omega)) ?_
  refine ea (ee _ rfl KJ (dW dS) ⟨some ⟨g,0,none⟩,c,ys'.take (i * 1),?_,?_,?_⟩)
  ·rw[hl2];rfl
  ·rw[← ht];exact(hy'.split i (by omega)).1
  ·rw[hl2];have:(eo ys' i zz).take (i * 1)=ys'.take (i * 1):=by
    rw[Nat.mul_one,eo,List.append_assoc,List.take_append_of_le_length (by rw[List.length_take];omega),List.take_take,Nat.min_self]
   rw[this];rfl
theorem Dn(n m:Int)(b:Nat)(G:Ks)(h:fB G ⟨b,0,none⟩=some (.int .i64 n)):FnS Tryz.prog 141 #[.int .i64 m,.pointer (some ⟨b,0,none⟩)] G (.bool (decide (m=n))):=by
 refine F141.fnS (by simp) (dY ?_);unfold c141;intros;refine gR 0 0 c141r0.eq_1 ?_;intros;refine gR 4 7 c141r1.eq_1 ?_;refine⟨_,⟨_,rfl,.g h⟩,?_⟩;refine sI ?_;intros;refine rV ?_;simp only[push_cast,Nat.reduceBEq]
theorem BC(p:Pt)(x:Nat)(A:Ky)(c:Nat)(B:Ky)(d:Nat)(ys zs:Kt):
  (PtL p x A c B d ys zs).Perm ([Kx.Item.row (.slice A p.isr.length c) 3 1 p.isr.length ys]++[Kx.Item.blk x (eB p A c B d),Kx.Item.row (.slice B p.reps.length d) 50 7 p.reps.length zs]) :=
 List.perm_append_comm (l₁:=[Kx.Item.blk x (eB p A c B d),Kx.Item.row (.slice B p.reps.length d) 50 7 p.reps.length zs]) (l₂:=[Kx.Item.row (.slice A p.isr.length c) 3 1 p.isr.length ys])
def uj(p:Pt)(n:Int):Pt:={ p with isr:=p.isr.filter fun m=>decide (m≠n) }
theorem Bx(p:Pt)(n:Int)(x:Nat)(A:Ky)(c:Nat)(B:Ky)(d:Nat)(ys zs:Kt)(G:Ks)(hy:Cells IE 1 p.isr ys):
  FnO Tryz.prog 87 #[.pointer (some ⟨x,0,none⟩),.int .i64 n] G (PtL p x A c B d ys zs) (fun G' L' r=>r=.tuple #[]∧∃ A' c' ys',L'=PtL (uj p n) x A' c' B d ys' zs∧Cells IE 1 (uj p n).isr ys'):=by
 have hfe:(p.isr.filter fun s=>!decide (s=n))=(uj p n).isr:=List.filter_congr fun s _=>by simp
 refine F87.fnO (by simp) eU (dY ?_);unfold c87;intros;refine gR 0 0 c87r0.eq_1 ?_;intro b3 hb3;refine sI ?_;intros;refine eI (eP [] _) ?_;rintro h' ⟨G1,rfl,hg1,f3⟩;have f3:=f3 0 _ rfl;rw[eV]at f3;intros;refine gR 4 15 c87r1.eq_1 ?_;refine⟨_,dZ (cs:=eB p A c B d) (.head _) rfl,?_⟩;refine sI ?_
 have hdel:=uy p.isr (fun m=>decide (m=n)) 141 #[.pointer (some ⟨b3,0,none⟩)] A c ys G1 hy fun G' hg s hs hi=>Dn n s b3 G' (em hg f3)
 refine eS.ghost (h':=⟨G1,[.row (.slice A p.isr.length c) 3 1 p.isr.length ys]++[.blk x (eB p A c B d),.row (.slice B p.reps.length d) 50 7 p.reps.length zs],[]⟩) (eO (BC p x A c B d ys zs)) ?_;refine(hdel _ _).mono ?_;rintro r h' ⟨G2,L',rfl,hg2,A',c',ys',rfl,hy2,rfl⟩;rw[hfe]at hy2 ⊢;refine sI ?_;refine ek [_] _ rfl (by simp[eB]) ⟨rfl,rfl⟩ ?_;refine sI ?_;intros
 exact gD ⟨[],rfl,⟨G2,PtL (uj p n) x A' c' B d ys' zs,[]⟩,eO (BC (uj p n) x A' c' B d ys' zs).symm,eU,rfl,A',c',ys',rfl,hy2⟩
theorem ug{p:Pt}(n:Int)(h:∀ m∈p.isr,m∈gj p.reps):∀ m∈(uj p n).isr,m∈gj (uj p n).reps:=fun m hm=>h m (List.mem_filter.1 hm).1
theorem zk(p:Pt)(n:Int)(b3 k:Nat)(r:Rp)(G:Ks)(hok:okP p)(hsm:smP p)(hI:ri p)(hn:I64 n)(h3:fB G ⟨b3,0,none⟩=some (.int .i64 n))(hr:p.reps[k]?=some r):
  ou G 102 #[.pointer (some ⟨b3,0,none⟩)] p k (nM n p k r):=by
 intro G1 x A c ga d ys zs hg hy hz;have h3:=em hg h3;rw[show(#[.pointer (some ⟨x,0,none⟩),.pointer (some ⟨ga,k * 7,none⟩)]++#[.pointer (some ⟨b3,0,none⟩)]:Array Value)=#[.pointer (some ⟨x,0,none⟩),.pointer (some ⟨ga,k * 7,none⟩),.pointer (some ⟨b3,0,none⟩)]from rfl];refine F102.fnO (by simp) eU (dY ?_);unfold c102;intros;refine gR 0 0 c102r0.eq_1 ?_;intros;refine dT ?_
 intros;refine gR 7 13 c102r1.eq_1 ?_;refine⟨_,dZ (cs:=eB p A c (some ⟨ga,0,none⟩) d) (.head _) rfl,?_⟩;refine sI ?_;intros;refine gC ?_;refine gbD (fun k1=>?_) (fun k1=>?_)
 ·intros;refine gR 0 0 c102r2.eq_1 ?_;intros;refine ea (ee [] rfl KL dS ?_);rw[nM,if_pos k1];exact m9 x _ (by decide)
 have hno:n=p.leader∨n∉p.isr→∀ (fr:KA) (e:Env) (h:H),go none Tryz.prog 36 v102.1 v102.2 (fI o102 fun v h=>AA (nM n p k r) x (· = []) h.G h.L v) (Td.s ((SC.reg false c102r4).seq .ret) :: fr) e h:=fun h fr e h=>by
  intros;refine gR 0 0 c102r4.eq_1 ?_;intros;refine ea (ee [] rfl KL dS ?_);rw[nM,if_neg k1,if_pos ‹_›];exact m9 x _ (by decide)
 intros;refine dT ?_;refine lk _ KJ (by decide) ?_;refine sJ c102r3.eq_1 ?_;refine⟨_,⟨_,rfl,.g h3⟩,?_⟩;refine sI ?_;refine⟨_,dZ (cs:=eB p A c (some ⟨ga,0,none⟩) d) (.head _) rfl,?_⟩;refine sI ?_;refine gxD (fun k2=>?_) (fun k2=>?_)
 ·refine sI ?_;intros;refine gC ?_;exact hno (.inl k2) _ _ _
 refine sI ?_;refine⟨_,dZ (cs:=eB p A c (some ⟨ga,0,none⟩) d) (.head _) rfl,?_⟩;refine sI ?_;refine⟨_,⟨_,rfl,.g h3⟩,?_⟩;refine sI ?_
 (refine fK (mW p.isr n A c ys _ _ (List.perm_append_comm (l₁:=[_,_]) (l₂:=[_])) hy) ?_)
 intros;refine gC ?_;refine gb (fun k3=>?_) (fun k3=>?_)
 ·have k3:n∉p.isr:=by simpa using k3
  exact hno (.inr k3) _ _ _
 have k3:n∈p.isr:=by simpa using k3
 have hq:nM n p k r=(eN (uj p n),0):=by
  rw[nM,if_neg k1,if_neg (fun h=>by rcases h with h | h;exact k2 h;exact h k3)]
  rfl
 rw[hq];clear hno hq;have hout:=Bx p n x A c (some ⟨ga,0,none⟩) d ys zs G1 hy;intros;refine gN ?_;intros;refine gR 31 34 c102r5.eq_1 ?_;refine⟨_,⟨_,rfl,.g h3⟩,?_⟩;refine sI ?_;rw[← append_nil (PtL p x A c (some ⟨ga,0,none⟩) d ys zs)];refine(hout _ _).mono ?_;rintro r' h' ⟨G2,L',rfl,hg2,rfl,A',c',ys',rfl,hy2⟩;rw[append_nil]
 have hraise:=kI (uj p n) x A' c' (some ⟨ga,0,none⟩) d ys' zs G2 hy2 (fa hz fun _ _ h=>RE.le hg2 h) (fO (p:=p) hok) (ug n hok.2.1.2) (mP hsm.1) hI;refine sI ?_;intros;refine gR 34 36 c102r6.eq_1 ?_;rw[← append_nil (PtL (uj p n) x A' c' (some ⟨ga,0,none⟩) d ys' zs)];refine(hraise _ _).mono ?_;rintro r' h' ⟨G3,L',rfl,hg3,rfl,zs',rfl,hz'⟩;rw[append_nil];refine sI ?_
 intros;refine gR 0 0 c102r7.eq_1 ?_;intros;refine ea (ee _ rfl KJ eU (vd ?_ hz' (kV (p:=uj p n) hI)));rw[(gW (uj p n)).2.2.2.1];exact hy2
theorem Ds(p:Pt)(cs:Kt)(n:Int)(G:Ks)(hp:PE G p cs)(hsm:smP p)(hn:I64 n):FnD Tryz.prog 44 #[.agg cs.toArray,.int .i64 n] G (PtR (ofP p n (nM n))):=by
 have hp0:=hp;obtain⟨A,c,B,d,rfl,-,-,hI⟩:=hp;refine F44.fnD (by simp) (dY ?_);unfold c44;unfold eB at hp0 ⊢;intros;refine gR 0 0 c44r0.eq_1 ?_;intro b3 hb3;refine sI ?_;intros;refine eI (eP [_] _) ?_;rintro h' ⟨G1,rfl,hg1,f3⟩;have f3:=f3 0 _ rfl;rw[eV]at f3;have hof:=wj p _ n 102 #[.pointer (some ⟨b3,0,none⟩)] (nM n p) G1 (hp0.le hg1) hsm hn fun hok k r _ hr=>zk p n b3 k r G1 hok hsm hI hn f3 hr
 rw[← jc]at hof;intros;refine gR 6 12 c44r1.eq_1 ?_;refine⟨_,⟨_,rfl,.g f3⟩,?_⟩;refine sI ?_;refine(hof _ _).mono ?_;rintro r h' ⟨G2,rfl,hg2,cs2,rfl,hpe⟩;have hpe0:=hpe;obtain⟨A2,c2,B2,d2,rfl,-⟩:=hpe;unfold eB at hpe0 ⊢;refine sI ?_;intros;refine rW ?_;exact⟨_,rfl,hpe0⟩
theorem F36:Fun Tryz.prog 36 11 v36 c36 o36:=Fun.mkA Tryz.func36 Tryz.ntmps36
theorem F88:Fun Tryz.prog 88 46 v88 c88 o88:=Fun.mkA Tryz.func88 Tryz.ntmps88
theorem yL{r:Rp}{A:Ky}{c:Nat}{B:Ky}{d k:Nat}{zs:Kt}(hld:∀ o u,(fk r A c B d)[o]?=some u→zs[k * 7+o]?=some u):∀ j u,(eG r.log A c)[j]?=some u→zs[k * 7+2+j]?=some u:=fun j u hj=>by
 rw[Nat.add_assoc];refine hld (2+j) u ?_
 match j,hj with
 | 0,h=>exact h
 | 1,h=>exact h
 | 2,h=>exact h
 | j+3,h=>cases h
theorem iU{l:List Rp}{k:Nat}{r y:Rp}(h:l[k]?=some r):(l.set k y)[k]?=some y:=List.getElem?_set_self (List.getElem?_eq_some_iff.1 h).1
theorem xm{p:Pt}{k:Nat}{y:Rp}{x:Nat}{G:Ks}{A:Ky}{c:Nat}{B:Ky}{d:Nat}{ys zs:Kt}(hy:Cells IE 1 p.isr ys)(hz:Cells (RE G) 7 (p.reps.set k y) zs)(hi:ri p):
  AA (hO p k y,0) x (· = []) G (PtL p x A c B d ys zs) (.int .i64 0):=by
 have:=vd (p:=hO p k y) (x:=x) (G:=G) (A:=A) (c:=c) (B:=B) (d:=d) hy hz hi
 rwa [oo]at this
theorem zW(p:Pt)(k:Nat)(r:Rp)(G:Ks)(hok:okP p)(hsm:smP p)(hI:ri p)(hr:p.reps[k]?=some r):ou G 88 #[] p k (li p k r):=by
 intro G1 x A c ga d ys zs hg hy hz;rw[show(#[.pointer (some ⟨x,0,none⟩),.pointer (some ⟨ga,k * 7,none⟩)]++#[]:Array Value)=#[.pointer (some ⟨x,0,none⟩),.pointer (some ⟨ga,k * 7,none⟩)]from rfl];have hsr:=hsm.1 r (mem_of_getElem? hr);have hkl:=(List.getElem?_eq_some_iff.1 hr).1;have hzl:=hz.len;refine F88.fnO (by simp) eU (dY ?_);unfold c88;intros;refine gR 0 0 c88r0.eq_1 ?_
 intros;try refine ed ?_
 obtain⟨cs,hre,hcl,hld⟩:=hz.get hr;obtain⟨A1,c1,B1,d1,rfl,-⟩:=hre;intros;refine gR 6 9 c88r1.eq_1 ?_;refine⟨_,ff (.tail _ (.head _)) (hld 1 _ rfl),?_⟩;refine sI ?_;intros;refine gC ?_;refine gb (fun k1=>?_) (fun k1=>?_)
 ·intros;refine gR 0 0 c88r2.eq_1 ?_;intros;refine ea (ee [] rfl KL dS ?_);rw[li,if_pos k1];exact m9 x _ (by decide)
 have hq:li p k r=(hO p k (uY r),0):=by rw[li,if_neg (by rw[k1];simp)]
 rw[hq];clear hq;have hz1:Cells (RE G1) 7 (p.reps.set k { r with up:=true }) (eo zs (k * 7+1) [.bool true]):=Cells.setF hz hr (by simp) fun cs h hl=>by
  obtain⟨A5,c5,B5,d5,rfl,q⟩:=h;exact⟨A5,c5,B5,d5,rfl,q⟩
 have hr1:=iU (y:={ r with up:=true }) hr;intros;refine gN ?_;intros;refine gR 10 13 c88r3.eq_1 ?_;refine fG [_] _ rfl (by simp;omega) ⟨rfl,rfl⟩ ?_;have hzl1:=hz1.len;rw[List.length_set]at hzl1;clear hld hcl hz;generalize eo zs (k * 7+1) [.bool true]=zs1 at *;obtain⟨cs,hre,hcl,hld⟩:=hz1.get hr1;have hre0:=hre;obtain⟨A1,c1,B1,d1,rfl,q1,q2,q3,q4⟩:=hre
 have hrec:=oL r.log _ G1 ⟨A1,c1,rfl,q1,q3⟩ hsr.1 hsr.2.1;have hldl:=yL hld;unfold eG at hrec hldl;refine sI ?_;intros;refine gR 13 24 c88r4.eq_1 ?_;refine⟨_,gJ (.tail _ (.head _)) rfl hldl,?_⟩;refine sI ?_;refine(hrec _ _).mono ?_;rintro v h' ⟨G2,rfl,hg2,cs2,rfl,hle⟩;have hle0:=hle;obtain⟨A2,c2,rfl,hsl2,hlim2⟩:=hle;unfold eG;refine sI ?_;refine fG [_] _ rfl (by simp;omega) ⟨rfl,rfl⟩ ?_
 have hz2:Cells (RE G2) 7 (p.reps.set k { r with up:=true,log:=(iQ r.log).1 }) (eo zs1 (k * 7+2) (eG (iQ r.log).1 A2 c2)):=by
  have:=Cells.setF (E:=RE G2) (o:=2) (us:=eG (iQ r.log).1 A2 c2) (x':={ r with up:=true,log:=(iQ r.log).1 }) (fa hz1 fun _ _ h=>RE.le hg2 h) hr1 (by simp[eG]) fun cs h hl=>by
   obtain⟨A5,c5,B5,d5,rfl,q1,q2,q3,q4⟩:=h;exact⟨A2,c2,B5,d5,rfl,hsl2,q2,hlim2,q4⟩
  rwa [List.set_set]at this
 unfold eG at hz2;have hr2:=iU (y:={ r with up:=true,log:=(iQ r.log).1 }) hr;have hzl2:=hz2.len;rw[List.length_set]at hzl2;clear hld hldl hcl hz1;generalize eo zs1 (k * 7+2) [.int .i64 (iQ r.log).1.limit,.int .i64 (iQ r.log).1.start,.slice A2 (iQ r.log).1.segs.length c2]=zs2 at *;obtain⟨cs,hre,hcl,hld⟩:=hz2.get hr2;have hre1:=hre;obtain⟨A1,c1,B1,d1,rfl,q1,q2,q3,q4⟩:=hre;have hsm2:=xV hsr.1 hsr.2.1
 have hend:=iB _ _ G2 hre1 hsm2.1 (by have:=hsm2.2;show(iQ r.log).1.segs.length≤_;omega);unfold fk at hend;refine sI ?_;intros;refine gR 24 28 c88r5.eq_1 ?_;refine⟨_,gJ (.tail _ (.head _)) hcl hld,?_⟩;unfold fk;refine sI ?_;refine fK (hend _ _) ?_;have hei:=kw (iQ r.log).1;have hbr:uY r=⟨r.id,true,(iQ r.log).1,m6 r.eps (fg (iQ r.log).1),min r.high (fg (iQ r.log).1)⟩:=rfl;rw[hbr]
 have hcut:=Ch r.eps (fg (iQ r.log).1) _ G2 q2 (by have:=hsr.2.2;omega);generalize fg (iQ r.log).1=en at *;intros;refine dT ?_;refine qe _ KJ (by decide) ?_;refine sJ c88r6.eq_1 ?_;refine⟨_,ff (.tail _ (.head _)) (hld 5 _ rfl),?_⟩;refine sI ?_;refine⟨_,ff (.tail _ (.head _)) (hld 6 _ rfl),?_⟩;refine sI ?_;refine(jd (E:=EpE) (et:=151) (sz:=2) hcut _ _).mono ?_
 rintro r' h' ⟨G3,L',rfl,hg3,A3,c3,ye,rfl,-,hye,rfl⟩;refine⟨ef hg3 (.cons _ KJ),?_⟩;refine sI ?_;refine fG [_,_] _ rfl (by simp;omega) ⟨rfl,rfl⟩ ?_;refine sI ?_;refine gG ?_;refine sI ?_;refine fG [_,_] _ rfl (by simp[eo];omega) ⟨rfl,rfl⟩ ?_;refine sI ?_;intros;try refine ed ?_
 refine eI (eh [] _ (by decide) hye) ?_;rintro h' ⟨G4,rfl,hg4,hv4⟩;have hz3:Cells (RE G4) 7 (p.reps.set k { r with up:=true,log:=(iQ r.log).1,eps:=m6 r.eps en }) (eo zs2 (k * 7+5) [.slice A3 (m6 r.eps en).length c3]):=by
  have:=Cells.setF (E:=RE G4) (o:=5) (us:=[.slice A3 (m6 r.eps en).length c3]) (x':={ r with up:=true,log:=(iQ r.log).1,eps:=m6 r.eps en }) (fa hz2 fun _ _ h=>RE.le (hg3.trans hg4) h) hr2 (by simp) fun cs h hl=>by
   obtain⟨A5,c5,B5,d5,rfl,q1,q2,q3,q4⟩:=h;exact⟨A5,c5,A3,c3,rfl,q1,hv4,q3,q4⟩
  rwa [List.set_set]at this
 have hr3:=iU (y:={ r with up:=true,log:=(iQ r.log).1,eps:=m6 r.eps en }) hr;have hz4:Cells (RE G4) 7 (p.reps.set k { r with up:=true,log:=(iQ r.log).1,eps:=m6 r.eps en,high:=min r.high en }) (eo (eo zs2 (k * 7+5) [.slice A3 (m6 r.eps en).length c3]) (k * 7+6) [.int .i64 (min r.high en)]):=by
  have:=Cells.setF (E:=RE G4) (o:=6) (us:=[.int .i64 (min r.high en)]) (x':={ r with up:=true,log:=(iQ r.log).1,eps:=m6 r.eps en,high:=min r.high en }) hz3 hr3 (by simp) fun cs h hl=>by
   obtain⟨A5,c5,B5,d5,rfl,q1,q2,q3,q4,q5⟩:=h;have q5:I64 r.high:=q5;exact⟨A5,c5,B5,d5,rfl,q1,q2,q3,q4,by unfold I64 at q5 ⊢;show _≤min r.high en∧min r.high en≤_;omega⟩
  rwa [List.set_set]at this
 intros;refine gR 0 0 c88r7.eq_1 ?_;intros;exact ea (ee _ rfl KJ eU (xm hy hz4 hI))
theorem sS(p:Pt)(cs:Kt)(n:Int)(G:Ks)(hp:PE G p cs)(hsm:smP p)(hn:I64 n):FnD Tryz.prog 36 #[.agg cs.toArray,.int .i64 n] G (PtR (ofP p n li)):=by
 have hp0:=hp;obtain⟨A,c,B,d,rfl,-,-,hI⟩:=hp;refine F36.fnD (by simp) (dY ?_);unfold c36;unfold eB at hp0 ⊢;intros;refine gR 0 0 c36r0.eq_1 ?_;have hof:=wj p _ n 88 #[] (li p) G hp0 hsm hn fun hok k r _ hr=>zW p k r G hok hsm hI hr
 rw[← jc]at hof;intros;refine gR 6 11 c36r1.eq_1 ?_;refine(hof _ _).mono ?_;rintro r h' ⟨G2,rfl,hg2,cs2,rfl,hpe⟩;have hpe0:=hpe;obtain⟨A2,c2,B2,d2,rfl,-⟩:=hpe;unfold eB at hpe0 ⊢;refine sI ?_;intros;refine rW ?_;exact⟨_,rfl,hpe0⟩
theorem F35:Fun Tryz.prog 35 14 v35 c35 o35:=Fun.mkA Tryz.func35 Tryz.ntmps35
theorem F85:Fun Tryz.prog 85 81 v85 c85 o85:=Fun.mkA Tryz.func85 Tryz.ntmps85
theorem nB{l:List Rp}{k:Nat}{r y:Rp}(hr:l[k]?=some r)(h:y.id=r.id):gj (l.set k y)=gj l:=by
 unfold gj;rw[List.map_set,h];refine List.ext_getElem? fun i=>?_
 rw[List.getElem?_set];split
 ·rename_i he;subst he;rw[List.getElem?_map,hr];have:=(List.getElem?_eq_some_iff.1 hr).1;simp[this]
 ·rfl
theorem l4{l:List Rp}{k:Nat}{r y:Rp}(hr:l[k]?=some r)(h:y.id=r.id)(ho:nV l):nV (l.set k y):=by
 refine⟨by rw[nB hr h];exact ho.1,fun z hz=>?_⟩;rcases List.mem_or_eq_of_mem_set hz with hz | rfl
 ·exact ho.2 z hz
 ·rw[h];exact ho.2 r (mem_of_getElem? hr)
theorem sy{l:List Rp}{k:Nat}{y:Rp}(h:∀ r∈l,smR r)(hy:smR y):∀ r∈l.set k y,smR r:=fun z hz=>by
 rcases List.mem_or_eq_of_mem_set hz with hz | rfl
 ·exact h z hz
 ·exact hy
theorem Cn(s:Sg)(n:Int):(pV s n).bytes.length≤s.bytes.length:=by simp[pV]
theorem tD{l:Lg}{n:Int}(h:smL l.segs):smL (m1 l n).segs:=fun s hs=>by
 rcases List.mem_or_eq_of_mem_set hs with hs | rfl
 ·exact h s hs
 ·have h1:=Cn (yS l (l.segs.length - 1)) n;by_cases h2:l.segs=[]
  ·rw[yS,h2]at h1 ⊢;simp[jQ]at h1 ⊢;simp[pV,jQ]
  ·obtain⟨s,e1,-⟩:=jF h2;have h3:yS l (l.segs.length - 1)=s:=by rw[yS,List.getD_eq_getElem?_getD,e1];rfl
   rw[h3]at h1 ⊢;have:=h s (mem_of_getElem? e1);omega
def kY(r:Rp)(n:Int):Rp:={ r with up:=false,log:=m1 r.log n }
def gu(p:Pt)(n:Int):Pt:={ p with leader:=if p.leader=n then -1 else p.leader }
def jK(p:Pt)(n:Int):Pt:=if 1 < p.isr.length then uj p n else p
theorem rj(p:Pt)(n t:Int)(k:Nat)(r:Rp)(h1:¬ t < 0)(h2:r.up=true):i9 n t p k r=(eN (hO (jK (gu p n) n) k (kY r t)),0):=by
 rw[i9,if_neg h1,if_neg (by rw[h2];simp)];unfold jK gu;dsimp only;by_cases h3:1 < p.isr.length
 ·rw[if_pos h3,if_pos h3];rfl
 ·rw[if_neg h3,if_neg h3];rfl
theorem yK(p:Pt)(n t:Int)(b5 b4 k:Nat)(r:Rp)(G:Ks)(hok:okP p)(hsm:smP p)(hI:ri p)(hn:I64 n)(ht:I64 t)(h5:fB G ⟨b5,0,none⟩=some (.int .i64 t))(h4:fB G ⟨b4,0,none⟩=some (.int .i64 n))(hr:p.reps[k]?=some r):
  ou G 85 #[.pointer (some ⟨b5,0,none⟩),.pointer (some ⟨b4,0,none⟩)] p k (i9 n t p k r):=by
 intro G1 x A c ga d ys zs hg hy hz;have h5:=em hg h5;have h4:=em hg h4;rw[show(#[.pointer (some ⟨x,0,none⟩),.pointer (some ⟨ga,k * 7,none⟩)]++#[.pointer (some ⟨b5,0,none⟩),.pointer (some ⟨b4,0,none⟩)]:Array Value)=#[.pointer (some ⟨x,0,none⟩),.pointer (some ⟨ga,k * 7,none⟩),.pointer (some ⟨b5,0,none⟩),.pointer (some ⟨b4,0,none⟩)]from rfl];have hsr:=hsm.1 r (mem_of_getElem? hr)
 have hor:=hok.1.2.2.2.2 r (mem_of_getElem? hr);have hkl:=(List.getElem?_eq_some_iff.1 hr).1;have hzl:=hz.len;obtain⟨cs,hre,hcl,hld⟩:=hz.get hr;obtain⟨A1,c1,B1,d1,rfl,q1,q2,q3,q4⟩:=hre;refine F85.fnO (by simp) eU (dY ?_);unfold c85;intros;refine gR 0 0 c85r0.eq_1 ?_;intros;refine dT ?_;intros;refine gR 10 12 c85r1.eq_1 ?_;refine⟨_,⟨_,rfl,.g h5⟩,?_⟩;refine sI ?_;intros;refine gC ?_
 refine gbD (fun k1=>?_) (fun k1=>?_)
 ·intros;refine gR 0 0 c85r2.eq_1 ?_;intros;refine ea (ee [] rfl KL dS ?_);rw[i9,if_pos k1];exact m9 x _ (by decide)
 intros;refine gR 13 18 c85r3.eq_1 ?_;refine⟨_,ff (.tail _ (.head _)) (hld 1 _ rfl),?_⟩;refine sI ?_;intros;refine gC ?_;refine gb (fun k2=>?_) (fun k2=>?_)
 ·have k2:r.up=false:=by simpa using k2
  intros;refine gR 0 0 c85r4.eq_1 ?_;intros;refine ea (ee [] rfl KL dS ?_);rw[i9,if_neg k1,if_pos k2];exact m9 x _ (by decide)
 have k2:r.up=true:=by simpa using k2
 rw[rj p n t k r k1 k2];have hlr:n7 r=r.log:=by rw[n7,if_pos k2]
 have hck:fS r.log=0:=by rw[← hlr];exact hor.2.1
 have hne:=(ib hck).2.1;have hn0:0 < r.log.segs.length:=List.length_pos_iff.2 hne;obtain⟨s,e1,e2,e3⟩:=jF hne;have hcl:=nX r.log.segs _ G1 q1 (by have:=hsr.2.1;omega);intros;refine gN ?_;intros;refine gR 18 24 c85r5.eq_1 ?_;refine⟨_,ff (.tail _ (.head _)) (hld 4 _ rfl),?_⟩;refine sI ?_;refine(jd hcl _ _).mono ?_;rintro v h' ⟨G2,L',rfl,hg2,A2,c2,ss,rfl,-,hss,rfl⟩;refine sI ?_;intros;try refine ed ?_
 refine eI (iE (.head _) hn0) ?_;rintro h' ⟨rfl,g2,c9,he,-,-⟩;cases he;have hw1:IntKind.i64.wrap ((r.log.segs.length:Int) - 1)=((r.log.segs.length - 1:Nat):Int):=by have:=hsr.2.1;rw[ei] <;> omega
 intros;refine gR2 24 29 c85r6.eq_1 @hw1 ?_;refine⟨by omega,_,rfl,?_⟩;refine sJ @Nat.zero_add ?_;obtain⟨cs,hse,hcl2,hld2⟩:=hss.get e1;obtain⟨B3,d3,rfl,hsb,hsi⟩:=hse;unfold gh at hld2;have hsbl:=hsr.1 s (mem_of_getElem? e1);have hmn:(min t (s.bytes.length:Int)).toNat≤s.bytes.length:=by omega
 have hwm:IntKind.i64.wrap ((s.bytes.length:Int) - min t (s.bytes.length:Int))=((s.bytes.length - (min t (s.bytes.length:Int)).toNat:Nat):Int):=by rw[ei] <;> omega
 have hdm:s.bytes.length≤d3:=by
  obtain⟨_,_,he,h1,h2,_⟩:=hsb;cases he;exact h1
 generalize hmm:s.bytes.length - (min t (s.bytes.length:Int)).toNat=m at *;intros;refine dT ?_;refine EP (by decide) ?_;refine sJ c85r7.eq_1 ?_;refine⟨_,ff (.head _) (hld2 1 _ rfl),?_⟩;refine sI ?_;refine⟨_,ff (.head _) (hld2 1 _ rfl),?_⟩;refine sI ?_;refine⟨_,⟨_,rfl,.g (em hg2 h5)⟩,?_⟩;refine sI ?_;refine⟨_,ff (.head _) (hld2 1 _ rfl),?_⟩;refine sJ @hwm ?_;refine⟨by omega,?_⟩
 refine sJ c85r8.eq_1 ?_;refine fG [] _ rfl (by simp;have:=hss.len;omega) ⟨rfl,rfl⟩ ?_;refine sI ?_;have hns:yS r.log (r.log.segs.length - 1)=s:=by rw[yS,List.getD_eq_getElem?_getD,e1];rfl
 have htn:pV s t=⟨s.base,s.bytes.take m⟩:=by rw[← hmm];rfl
 have hlen:(kY r t).log.segs.length=r.log.segs.length:=List.length_set ..;have hss2:Cells (SE G2) 2 (kY r t).log.segs (eo ss ((r.log.segs.length - 1) * 2+1) [.slice B3 m d3]):=by
  have:=Cells.setF (E:=SE G2) (o:=1) (us:=[.slice B3 m d3]) (x':=pV s t) (fa hss fun _ _ h=>SE.le hg2 h) e1 (by simp) fun cs h hl=>by
   obtain⟨B5,d5,rfl,h1,h2⟩:=h;have hbl:(s.bytes.take m).length=m:=by rw[List.length_take];omega
   rw[htn];refine⟨B3,d3,?_,?_,h2⟩
   ·show[Value.int .i64 s.base,.slice B3 m d3]=[.int .i64 s.base,.slice B3 (s.bytes.take m).length d3];rw[hbl]
   ·show SB G2 (.slice B3 (s.bytes.take m).length d3) (s.bytes.take m);rw[hbl];exact SlV.pre m (SB.le hsb hg2) (by omega)
  show Cells (SE G2) 2 (r.log.segs.set (r.log.segs.length - 1) (pV (yS r.log (r.log.segs.length - 1)) t)) _;rw[hns];exact this
 intros;try refine ed ?_
 refine eI (eh [] _ (by decide) hss2) ?_;rintro h' ⟨G3,rfl,hg3,hv3⟩;have hv3:SlV G3 (SE G3) 2 (.slice (some ⟨g2,0,none⟩) (kY r t).log.segs.length c2) (kY r t).log.segs:=by rw[hlen];exact hv3.le (.refl _) fun _ _ h=>SE.le hg3 h
 have hg13:=hg2.trans hg3;have hz3:Cells (RE G3) 7 (p.reps.set k (kY r t)) (eo (eo zs (k * 7+1) [.bool false]) (k * 7+4) [.slice (some ⟨g2,0,none⟩) r.log.segs.length c2]):=by
  have h1:=Cells.setF (E:=RE G3) (o:=1) (us:=[.bool false]) (x':={ r with up:=false }) (fa hz fun _ _ h=>RE.le hg13 h) hr (by simp) fun cs h hl=>by
   obtain⟨A5,c5,B5,d5,rfl,q⟩:=h;exact⟨A5,c5,B5,d5,rfl,q⟩
  have h2:=Cells.setF (E:=RE G3) (o:=4) (us:=[.slice (some ⟨g2,0,none⟩) r.log.segs.length c2]) (x':=kY r t) h1 (iU hr) (by simp) fun cs h hl=>by
   obtain⟨A5,c5,B5,d5,rfl,q1,q2,q3,q4⟩:=h;refine⟨some ⟨g2,0,none⟩,c2,B5,d5,?_,hv3,q2,q3,q4⟩;rw[← hlen];rfl
  rwa [List.set_set]at h2
 intros;refine gR 50 58 c85r9.eq_1 ?_;refine fG [_] _ rfl (by simp;omega) ⟨rfl,rfl⟩ ?_;refine sI ?_;refine fG [_] _ rfl (by simp[eo];omega) ⟨rfl,rfl⟩ ?_;refine sI ?_;generalize eo (eo zs (k * 7+1) [.bool false]) (k * 7+4) [.slice (some ⟨g2,0,none⟩) r.log.segs.length c2]=zs3 at *;intros;try refine ed ?_
 refine eL (fun e h=>e 0=.pointer (some ⟨x,0,none⟩)∧e 3=.pointer (some ⟨b4,0,none⟩)∧h=⟨G3,PtL (gu p n) x A c (some ⟨ga,0,none⟩) d ys zs3,[]⟩) ?_ ?_
 ·intros;try refine ed ?_
  intros;refine dT ?_;refine qB 58 64 (by decide) ?_;refine sJ c85r10.eq_1 ?_;refine⟨_,dZ (cs:=eB p A c (some ⟨ga,0,none⟩) d) (.head _) rfl,?_⟩;refine sI ?_;refine⟨_,⟨_,rfl,.g (em hg13 h4)⟩,?_⟩;refine sI ?_;intros;refine gC ?_;refine gbD (fun k3=>?_) (fun k3=>?_)
  ·intros;refine gR 65 69 c85r11.eq_1 ?_;refine ek [] _ rfl (by simp[eB]) ⟨rfl,rfl⟩ ?_;refine sI ?_;intros;refine gN ?_;refine eF ⟨eE,eE,?_⟩;unfold gu;rw[if_pos k3];rfl
  ·intros;refine gN ?_;refine eF ⟨eE,eE,?_⟩;unfold gu;rw[if_neg k3];rfl
 rintro e h ⟨e0,e3,rfl⟩;refine dV [0,3] ?_;refine sJ2 @e0 @e3 ?_;intros;try refine ed ?_
 refine eL (fun e h=>∃ (G4:Ks) (A':Ky) (c':Nat) (ys':Kt),(Gle G3 G4∧Cells IE 1 (jK (gu p n) n).isr ys')∧e 0=.pointer (some ⟨x,0,none⟩)∧h=⟨G4,PtL (jK (gu p n) n) x A' c' (some ⟨ga,0,none⟩) d ys' zs3,[]⟩) ?_ ?_
 ·intros;try refine ed ?_
  intros;refine gR 69 75 c85r12.eq_1 ?_;refine⟨_,dZ (cs:=eB (gu p n) A c (some ⟨ga,0,none⟩) d) (.head _) rfl,?_⟩;refine sI ?_;intros;refine gC ?_;refine gb (fun k3=>?_) (fun k3=>?_)
  ·have k3:1 < (gu p n).isr.length:=by have:=KM k3;omega
   have hci:jK (gu p n) n=uj (gu p n) n:=if_pos k3;rw[hci];have hout:=Bx (gu p n) n x A c (some ⟨ga,0,none⟩) d ys zs3 G3 hy;intros;refine gR 76 79 c85r13.eq_1 ?_;refine⟨_,⟨_,rfl,.g (em hg13 h4)⟩,?_⟩;refine sI ?_;rw[← append_nil (PtL (gu p n) x A c (some ⟨ga,0,none⟩) d ys zs3)];refine(hout _ _).mono ?_;rintro r' h' ⟨G4,L',rfl,hg4,rfl,A',c',ys',rfl,hy4⟩;rw[append_nil];refine sI ?_
   intros;refine gN ?_;exact eF ⟨G4,A',c',ys',⟨hg4,hy4⟩,eE,rfl⟩
  ·have k3:¬ 1 < (gu p n).isr.length:=by have:=KN k3;omega
   have hci:jK (gu p n) n=gu p n:=if_neg k3;rw[hci];intros;refine gN ?_;exact eF ⟨G3,A,c,ys,⟨.refl _,hy⟩,eE,rfl⟩
 rintro e h ⟨G4,A',c',ys',⟨hg4,hy4⟩,e0,rfl⟩;refine dV [0] ?_;refine sJ @e0 ?_;have hcr:(jK (gu p n) n).reps=p.reps:=by unfold jK;split <;> rfl
 have hcI:ri (jK (gu p n) n):=by
  have h1:I64 (gu p n).leader:=by
   unfold gu;dsimp only;split
   ·unfold I64;decide
   ·exact hI.2.1
  unfold jK;split <;> exact⟨hI.1,h1,hI.2.2⟩
 have hcin:∀ m∈(jK (gu p n) n).isr,m∈gj p.reps:=by
  unfold jK;split
  ·exact ug (p:=gu p n) n hok.2.1.2
  ·exact hok.2.1.2
 generalize jK (gu p n) n=p3 at *;have hset:=oo p3 k (kY r t) x A' c' (some ⟨ga,0,none⟩) d ys' zs3;have hps:(hO p3 k (kY r t)).reps=p.reps.set k (kY r t):=by show p3.reps.set _ _=_;rw[hcr]
 have hraise:=kI (hO p3 k (kY r t)) x A' c' (some ⟨ga,0,none⟩) d ys' zs3 G4 hy4 (by rw[hps];exact fa hz3 fun _ _ h=>RE.le hg4 h) (by rw[hps];exact l4 hr rfl (fO hok))
  (fun m hm=>by rw[hps,nB (y:=kY r t) hr rfl];exact hcin m hm) (by rw[hps];exact mP <| sy hsm.1 ⟨tD hsr.1,by rw[hlen];exact hsr.2.1,hsr.2.2⟩) hcI
 rw[hset]at hraise;intros;refine gR 79 81 c85r14.eq_1 ?_;rw[← append_nil (PtL p3 x A' c' (some ⟨ga,0,none⟩) d ys' zs3)];refine(hraise _ _).mono ?_;rintro r' h' ⟨G5,L',rfl,hg5,rfl,zs',rfl,hz'⟩;rw[append_nil];refine sI ?_;intros;refine gR 0 0 c85r15.eq_1 ?_;intros;refine ea (ee _ rfl KJ eU (vd ?_ hz' (kV (p:=hO p3 k (kY r t)) hcI)));rw[(gW (hO p3 k (kY r t))).2.2.2.1];exact hy4
theorem tL(p:Pt)(cs:Kt)(n t:Int)(G:Ks)(hp:PE G p cs)(hsm:smP p)(hn:I64 n)(ht:I64 t):FnD Tryz.prog 35 #[.agg cs.toArray,.int .i64 n,.int .i64 t] G (PtR (ofP p n (i9 n t))):=by
 have hp0:=hp;obtain⟨A,c,B,d,rfl,-,-,hI⟩:=hp;refine F35.fnD (by simp) (dY ?_);unfold c35;unfold eB at hp0 ⊢;intros;refine gR 0 0 c35r0.eq_1 ?_;intro b4 hb4 b5 hb5;refine sI ?_;intros;refine eI (eP [_] _) ?_;rintro h' ⟨G1,rfl,hg1,f5⟩;refine eI (eP [_] _) ?_;rintro h' ⟨G2,rfl,hg2,f4⟩;have f5:=em hg2 (f5 0 _ rfl);have f4:=f4 0 _ rfl;rw[eV]at f4 f5
 have hof:=wj p _ n 85 #[.pointer (some ⟨b5,0,none⟩),.pointer (some ⟨b4,0,none⟩)] (i9 n t p) G2 (hp0.le (hg1.trans hg2)) hsm hn fun hok k r _ hr=>yK p n t b5 b4 k r G2 hok hsm hI hn ht f5 f4 hr
 rw[← jc]at hof;intros;refine gR 8 14 c35r1.eq_1 ?_;refine⟨_,⟨_,rfl,.g f4⟩,?_⟩;refine sI ?_;refine(hof _ _).mono ?_;rintro r h' ⟨G2,rfl,hg2,cs2,rfl,hpe⟩;have hpe0:=hpe;obtain⟨A2,c2,B2,d2,rfl,-⟩:=hpe;unfold eB at hpe0 ⊢;refine sI ?_;intros;refine rW ?_;exact⟨_,rfl,hpe0⟩
theorem F25:Fun Tryz.prog 25 19 v25 c25 o25:=Fun.mkA Tryz.func25 Tryz.ntmps25
theorem F66:Fun Tryz.prog 66 90 v66 c66 o66:=Fun.mkA Tryz.func66 Tryz.ntmps66
theorem F0(x:Batch)(base:Int)(cs:Kt)(G:Ks)(hx:BE G x cs)(hbi:I64 base):FnD Tryz.prog 67 #[.agg cs.toArray,.int .i64 base] G (fun G' r=>∃ cs',r=.tuple #[.agg cs'.toArray,.int .i64 (fU x base).2]∧BE G' (fU x base).1 cs') :=
 FnO.fnD (L1:=[]) (Am x base cs G hx hbi) fun G' L' v ⟨cs',h1,h2⟩ _ L D=>(pN.gx h2).mono fun h' ⟨G2,e,hg,hb⟩=>⟨G2,e,hg,cs',h1,hb⟩
theorem zi(l:List Ep)(n s:Int):(mY l n s).1.length≤l.length+1:=by
 unfold mY;split
 ·simp
 ·split
  ·simp
  ·repeat' split
   all_goals simp
theorem HW(l:List Ep)(n s:Int)(v:Value)(G:Ks)(hl:SEp G v l)(hb:l.length≤1000000)(in1:I64 n)(is1:I64 s):
  FnO Tryz.prog 70 #[v,.int .i64 n,.int .i64 s] G [] (fun _ L' r=>∃ A c ys,r=.tuple #[.slice A (mY l n s).1.length c,.int .i64 (mY l n s).2]∧Cells EpE 2 (mY l n s).1 ys∧L'=[.row (.slice A (mY l n s).1.length c) 151 2 (mY l n s).1.length ys]):=fun L D =>
 (Du l n s v G hl hb in1 is1 L D).gx fun v h' ⟨G',L',he,hg,u,hr,ys,hc,hL⟩=>by
  subst he hL;exact(gL (.head _)).mono fun h' ⟨h1,A,c,h2,h3,h4⟩=>⟨G',_,h1,hg,A,c,ys,by rw[hr,h2],hc,by rw[h2]⟩
def BT(q:(Pt × Int) × Int)(bb:Nat)(C:Kv):Prop:=∃ v,C=[.blk bb [.int .i64 v]]∧(q.1.2=0→v=q.2)
theorem sf(p:Pt)(b:Batch)(cb:Kt)(b3 bb:Nat)(G:Ks)(hok:okP p)(hsm:smP p)(hI:ri p)(hb:BE G b cb)(h3:∀ j u,cb[j]?=some u→fB G ⟨b3,j,none⟩=some u):
  Em G 66 #[.pointer (some ⟨b3,0,none⟩),.pointer (some ⟨bb,0,none⟩)] p (lG b p).1 [.blk bb [.int .i64 0]] (BT (lG b p) bb):=by
 intro G1 x A c B d ys zs hg hy hz;have hb:=BE.le hg hb;have h3:∀ j u,cb[j]?=some u→fB G1 ⟨b3,j,none⟩=some u:=fun j u h=>em hg (h3 j u h)
 rw[show(#[.pointer (some ⟨x,0,none⟩)]++#[.pointer (some ⟨b3,0,none⟩),.pointer (some ⟨bb,0,none⟩)]:Array Value)=#[.pointer (some ⟨x,0,none⟩),.pointer (some ⟨b3,0,none⟩),.pointer (some ⟨bb,0,none⟩)]from rfl];have hn0:eC (PtL p x A c B d ys zs++[.blk bb [.int .i64 0]]):=ec (dW (dW (ec dS)))
 have herr:∀ (e v:Int) (q:Pt) (G':Ks),e≠0→∀ w,lG b p=((q,e),w)→AA (lG b p).1 x (BT (lG b p) bb) G' [.blk bb [.int .i64 v]] (.int .i64 e):=fun e v q G' he w hq=>by
  rw[hq];exact⟨rfl,[],_,rfl,⟨v,rfl,fun h=>absurd h he⟩,fun _=>rfl,fun h=>absurd h he⟩
 refine F66.fnO (by simp) hn0 (dY ?_);unfold c66;intros;refine gR 0 0 c66r0.eq_1 ?_;intros;refine gR 8 13 c66r1.eq_1 ?_;refine⟨_,dZ (cs:=eB p A c B d) (.head _) rfl,?_⟩;refine sI ?_;intros;refine gC ?_;refine gbD (fun k1=>?_) (fun k1=>?_)
 ·intros;refine gR 0 0 c66r2.eq_1 ?_;intros;refine ea (ee [.blk bb [.int .i64 0]] rfl (by simp[PtL]) (ec dS) (herr 180 0 p _ (by decide) 0 ?_));rw[lG,if_pos k1]
 intros;refine gN ?_;intros;refine dT ?_;refine qB 14 25 (by decide) ?_;refine sJ c66r3.eq_1 ?_;refine⟨_,dZ (cs:=eB p A c B d) (.head _) rfl,?_⟩;refine sI ?_;refine⟨_,dZ (cs:=eB p A c B d) (.head _) rfl,?_⟩;refine sI ?_;intros;refine gC ?_;refine gbD (fun k2=>?_) (fun k2=>?_)
 ·intros;refine gR 0 0 c66r4.eq_1 ?_;intros;refine ea (ee [.blk bb [.int .i64 0]] rfl (by simp[PtL]) (ec dS) (herr 181 0 p _ (by decide) 0 ?_));rw[lG,if_neg k1,if_pos k2]
 -- the leader is there
 obtain⟨r0,hr0,hl0,hu0⟩:∃ r∈p.reps,r.id=p.leader∧r.up=true:=by
  rcases hok.2.2 with h | ⟨⟨r,hr,h⟩,-⟩
  ·omega
  ·exact⟨r,hr,h⟩
 obtain⟨k,r,hk,hr,hrl⟩:=lb (l:=p.reps) (n:=p.leader) (List.mem_map.2 ⟨r0,hr0,hl0⟩);have hkl:=(List.getElem?_eq_some_iff.1 hr).1;intros;refine gN ?_;refine eI (iE (.tail _ (.head _)) (by omega)) ?_;rintro h' ⟨rfl,ga,c9,he,-,-⟩;cases he;have hpt:uN (some ⟨ga,0,none⟩) (some k)=some ⟨ga,k * 7,none⟩:=congrArg some (gB _ _);intros;refine gR 26 33 c66r5.eq_1 ?_
 refine⟨_,dZ (cs:=eB p A c (some ⟨ga,0,none⟩) d) (.head _) rfl,?_⟩;refine sI ?_;refine(qh p x A c (some ⟨ga,0,none⟩) d ys zs p.leader _ [.blk bb [.int .i64 0]] (List.Perm.refl _) hy hz hI.2.1 (fO hok)).mono ?_;rintro _ _ ⟨rfl,rfl⟩;rw[hk,hpt];refine sI ?_;obtain⟨B2,d2,rfl,-⟩:=id hb;obtain⟨cs,hre,hcl,hld⟩:=hz.get hr;have hre0:=hre;have hsr:=hsm.1 r (mem_of_getElem? hr)
 have hend:=iB r cs G1 hre hsr.1 (by have:=hsr.2.1;omega);have hei:=kw r.log;have hmov:=F0 b (fg r.log) _ G1 hb (by unfold I64;omega);have happ:lG b p=if (fU b (fg r.log)).2≠0 then((p,(fU b (fg r.log)).2),0)else
   (if (j6 r.log { (fU b (fg r.log)).1 with epoch:=p.epoch }).2≠0 then((p,(j6 r.log { (fU b (fg r.log)).1 with epoch:=p.epoch }).2),(fU b (fg r.log)).1.base)else
    if (mY r.eps p.epoch (fU b (fg r.log)).1.base).2≠0 then((p,(mY r.eps p.epoch (fU b (fg r.log)).1.base).2),(fU b (fg r.log)).1.base)else
     ((eN (hO p k { r with log:=(j6 r.log { (fU b (fg r.log)).1 with epoch:=p.epoch }).1,eps:=(mY r.eps p.epoch (fU b (fg r.log)).1.base).1 }),0),(fU b (fg r.log)).1.base)):=by
  rw[lG,if_neg k1,if_neg (by omega),hk];dsimp only;rw[hr]
 generalize fg r.log=en at *;generalize hmb:(fU b en).1=mb at *;generalize hme:(fU b en).2=me at *;obtain⟨A1,c1,B1,d1,rfl,q1,q2,q3,q4⟩:=hre;unfold fk at hend;unfold fu at hmov;intros;try refine ed ?_
 refine eL (fun e h=>∃ (G2:Ks) (b6:Nat) (cs6:Kt),(Gle G1 G2∧BE G2 mb cs6)∧e 0=.pointer (some ⟨x,0,none⟩)∧e 2=.pointer (some ⟨bb,0,none⟩)∧e 5=.pointer (some ⟨ga,k * 7,none⟩)∧e 6=.pointer (some ⟨b6,0,none⟩)∧e 7=.int .i64 me∧h=⟨G2,.blk b6 cs6 :: (PtL p x A c (some ⟨ga,0,none⟩) d ys zs++[.blk bb [.int .i64 0]]),[]⟩) ?_ ?_
 ·intros;refine dT ?_;refine zK _ KJ (by decide) ?_;refine sJ c66r6.eq_1 ?_;refine⟨_,⟨_,_,rfl,rfl,rfl,fun j u hu=>.g (by rw[gB];exact h3 j u hu)⟩,?_⟩;unfold fu;refine sI ?_;refine⟨_,gJ (.tail _ (.head _)) hcl hld,?_⟩;unfold fk;refine sI ?_;refine⟨?_,?_⟩
  ·refine fK (hend _ _) ?_;refine⟨?_,?_⟩
   ·refine(hmov _ _).mono ?_;rintro r' h' ⟨G2,rfl,hg2,cs6,rfl,hbe⟩;have hbe0:=hbe;obtain⟨B6,d6,rfl,-⟩:=hbe;unfold fu;refine sI ?_;refine⟨lQ hg2,?_⟩;refine sI ?_;intro b6 hb6;refine⟨ef hg2 (.cons _ KJ),?_⟩;refine sI ?_;refine ek [] _ rfl (by simp) ⟨rfl,rfl⟩ ?_;refine sI ?_;refine⟨ef hg2 (.cons _ KJ),?_⟩;refine sI ?_;exact eF ⟨G2,b6,_,⟨hg2,hbe0⟩,eE,eE,eE,eE,eE,rfl⟩
   ·intro b6 hb6;refine⟨ef KO (.cons _ KJ),?_⟩;refine sI ?_;refine(hmov _ _).mono ?_;rintro r' h' ⟨G2,rfl,hg2,cs6,rfl,hbe⟩;have hbe0:=hbe;obtain⟨B6,d6,rfl,-⟩:=hbe;unfold fu;refine sI ?_;refine⟨ef hg2 (.cons _ KJ),?_⟩;refine sI ?_;refine ek [] _ rfl (by simp) ⟨rfl,rfl⟩ ?_;refine sI ?_;refine⟨ef hg2 (.cons _ KJ),?_⟩;refine sI ?_;exact eF ⟨G2,b6,_,⟨hg2,hbe0⟩,eE,eE,eE,eE,eE,rfl⟩
  ·intro b6 hb6;refine⟨ef KO (.cons _ KJ),?_⟩;refine sI ?_;refine fK (hend _ _) ?_;refine⟨ef KO (.cons _ KJ),?_⟩;refine sI ?_;refine(hmov _ _).mono ?_;rintro r' h' ⟨G2,rfl,hg2,cs6,rfl,hbe⟩;have hbe0:=hbe;obtain⟨B6,d6,rfl,-⟩:=hbe;unfold fu;refine sI ?_;refine⟨ef hg2 (.cons _ KJ),?_⟩;refine sI ?_;refine ek [] _ rfl (by simp) ⟨rfl,rfl⟩ ?_;refine sI ?_;refine⟨ef hg2 (.cons _ KJ),?_⟩;refine sI ?_
   exact eF ⟨G2,b6,_,⟨hg2,hbe0⟩,eE,eE,eE,eE,eE,rfl⟩
 rintro e h ⟨G2,b6,cs6,⟨hg2,hbe⟩,e0,e2,e5,e6,e7,rfl⟩;refine dV [0,2,5,6,7] ?_;refine sJ5 @e0 @e2 @e5 @e6 @e7 ?_;intros;refine gN ?_;intros;refine gR 42 43 c66r7.eq_1 ?_;intros;refine gC ?_;refine gb (fun k3=>?_) (fun k3=>?_)
 ·have k3:=KM k3;intros;refine gR 44 45 c66r8.eq_1 ?_;intros;refine ea (ee [.blk bb [.int .i64 0]] rfl (by simp[PtL]) (ec dS) (herr me 0 p _ k3 0 ?_));rw[happ,if_pos k3]
 have k3:me=0:=by simpa using k3
 rw[if_neg (fun h=>h k3)]at happ;obtain⟨B6,d6,rfl,hb6,i1,i2,i3,i4,i5⟩:=hbe;have hbe2:BE G2 { mb with epoch:=p.epoch } (fu { mb with epoch:=p.epoch } (.slice B6 mb.recs.length d6)):=⟨B6,d6,rfl,hb6,i1,i2,i3,hI.1,i5⟩;unfold fu at hbe2 ⊢;intros;refine gN ?_;intros;refine dT ?_;refine Aq _ KJ (by decide) ?_;refine sJ c66r9.eq_1 ?_
 refine⟨_,dZ (cs:=eB p A c (some ⟨ga,0,none⟩) d) (.tail _ (.head _)) rfl,?_⟩;refine sI ?_;refine⟨_,dZ (.head _) rfl,?_⟩;refine sJ c66r10.eq_1 ?_;refine ek [] _ rfl (by simp) ⟨rfl,rfl⟩ ?_;refine sI ?_;refine ek [_,_,_,_] [] rfl (by simp) ⟨rfl,rfl⟩ ?_;refine sI ?_;intros;try refine ed ?_
 refine dU (h':=⟨G2,.blk b6 [.int .i64 mb.base,.int .i64 mb.last,.int .i64 mb.src,.int .i64 p.epoch,.int .i64 mb.pid,.int .i64 mb.gen,.int .i64 mb.seq,.bool mb.txn,.int .i64 mb.ctl,.slice B6 mb.recs.length d6] :: (PtL p x A c (some ⟨ga,0,none⟩) d ys zs++[.blk bb [.int .i64 mb.base]]),[]⟩) (eO (List.Perm.refl _)) ?_;have hldl:=yL hld
 have hca:=oP r.log { mb with epoch:=p.epoch } _ _ G2 (LE.le hg2 ⟨A1,c1,rfl,q1,q3⟩) hsr.1 hsr.2.1 hbe2;have hmx:=mb.base;unfold eG at hca hldl;dsimp only at hca
 have hb10:∀ j u,([.int .i64 mb.base,.int .i64 mb.last,.int .i64 mb.src,.int .i64 p.epoch,.int .i64 mb.pid,.int .i64 mb.gen,.int .i64 mb.seq,.bool mb.txn,.int .i64 mb.ctl,.slice B6 mb.recs.length d6]:Kt)[j]?=some u→([.int .i64 mb.base,.int .i64 mb.last,.int .i64 mb.src,.int .i64 p.epoch,.int .i64 mb.pid,.int .i64 mb.gen,.int .i64 mb.seq,.bool mb.txn,.int .i64 mb.ctl,.slice B6 mb.recs.length d6]:Kt)[0+j]?=some u:=fun j u h=>by rw[Nat.zero_add];exact h
 generalize hap:j6 r.log { mb with epoch:=p.epoch }=ap at *;obtain⟨al,ae⟩:=ap;dsimp only at happ;intros;refine dT ?_;refine qe _ KJ (by decide) ?_;refine sJ c66r11.eq_1 ?_;refine⟨_,gJ (.tail _ (.tail _ (.head _))) rfl hldl,?_⟩;refine sI ?_;refine⟨_,lB (.head _) rfl hb10,?_⟩;refine sI ?_;refine(hca _ _).mono ?_;rintro v h' ⟨G3,rfl,hg3,cs7,rfl,hle⟩;dsimp only at hle;have hle0:=hle
 obtain⟨A7,c7,rfl,hsl7,hlim7⟩:=hle;unfold eG;refine sI ?_;refine gG ?_;refine sI ?_;refine fG [_,_] _ rfl (by simp;have:=hz.len;omega) ⟨rfl,rfl⟩ ?_;refine sI ?_;refine gG ?_;refine sI ?_;have hz2:Cells (RE G3) 7 (p.reps.set k { r with log:=al }) (eo zs (k * 7+2) [.int .i64 al.limit,.int .i64 al.start,.slice A7 al.segs.length c7]) :=
  Cells.setF (E:=RE G3) (x':={ r with log:=al }) (fa hz fun _ _ h=>RE.le (hg2.trans hg3) h) hr (by simp) fun cs h hl=>by
   obtain⟨A5,c5,B5,d5,rfl,q1,q2,q3,q4⟩:=h;exact⟨A7,c7,B5,d5,rfl,hsl7,q2,hlim7,q4⟩
 refine dU (h':=⟨G3,.blk b6 [.int .i64 mb.base,.int .i64 mb.last,.int .i64 mb.src,.int .i64 p.epoch,.int .i64 mb.pid,.int .i64 mb.gen,.int .i64 mb.seq,.bool mb.txn,.int .i64 mb.ctl,.slice B6 mb.recs.length d6] :: (PtL p x A c (some ⟨ga,0,none⟩) d ys (eo zs (k * 7+2) [.int .i64 al.limit,.int .i64 al.start,.slice A7 al.segs.length c7])++[.blk bb [.int .i64 mb.base]]),[]⟩) (eO (List.Perm.refl _)) ?_
 generalize eo zs (k * 7+2) [.int .i64 al.limit,.int .i64 al.start,.slice A7 al.segs.length c7]=zs2 at *;intros;refine gR 65 66 c66r12.eq_1 ?_;intros;refine gC ?_;refine gb (fun k4=>?_) (fun k4=>?_)
 ·have k4:=KM k4;intros;refine gR 67 68 c66r13.eq_1 ?_;intros;refine ea (ee [.blk bb [.int .i64 mb.base]] rfl (by simp[PtL]) (ec dS) (herr ae mb.base p _ k4 mb.base ?_));rw[happ,if_pos k4]
 have k4:ae=0:=by simpa using k4
 rw[if_neg (fun h=>h k4)]at happ;clear hld hldl hcl;have hr2:=iU (y:={ r with log:=al }) hr;obtain⟨cs,hre2,hcl,hld⟩:=hz2.get hr2;obtain⟨A8,c8,B8,d8,rfl,q1,q2,q3,q4⟩:=hre2;have hput:=HW r.eps p.epoch mb.base _ G3 q2 (by have:=hsr.2.2;omega) hI.1 i1;have hpl:=zi r.eps p.epoch mb.base;generalize mY r.eps p.epoch mb.base=pp at *;obtain⟨pl,pe⟩:=pp;dsimp only at happ hput hpl;intros;refine gN ?_
 intros;refine dT ?_;refine qe _ KJ (by decide) ?_;refine sJ c66r14.eq_1 ?_;refine⟨_,ff (.tail _ (.tail _ (.head _))) (hld 5 _ rfl),?_⟩;refine sI ?_;refine⟨_,dZ (cs:=eB p A c (some ⟨ga,0,none⟩) d) (.tail _ (.head _)) rfl,?_⟩;refine sI ?_;refine⟨_,dZ (b:=bb) (.tail _ (.tail _ (.tail _ (.tail _ (.head _))))) rfl,?_⟩;refine sI ?_;refine(hput _ _).mono ?_
 rintro v h' ⟨G4,L',rfl,hg4,A9,c9,ye,rfl,hye,rfl⟩;refine sI ?_;refine gG ?_;refine sI ?_;refine fG [_,_,_] _ rfl (by simp;have:=hz2.len;rw[List.length_set]at this;omega) ⟨rfl,rfl⟩ ?_;refine sI ?_;refine gG ?_;refine sI ?_
 refine dU (h':=⟨G4,[.row (.slice A9 pl.length c9) 151 2 pl.length ye,.blk b6 [.int .i64 mb.base,.int .i64 mb.last,.int .i64 mb.src,.int .i64 p.epoch,.int .i64 mb.pid,.int .i64 mb.gen,.int .i64 mb.seq,.bool mb.txn,.int .i64 mb.ctl,.slice B6 mb.recs.length d6]]++(PtL p x A c (some ⟨ga,0,none⟩) d ys (eo zs2 (k * 7+5) [.slice A9 pl.length c9])++[.blk bb [.int .i64 mb.base]]),[]⟩) (eO (List.Perm.refl _)) ?_
 refine eI (eh [] _ (by decide) hye) ?_;rintro h' ⟨G5,rfl,hg5,hv5⟩;have hz3:Cells (RE G5) 7 (p.reps.set k { r with log:=al,eps:=pl }) (eo zs2 (k * 7+5) [.slice A9 pl.length c9]):=by
  have:=Cells.setF (E:=RE G5) (o:=5) (us:=[.slice A9 pl.length c9]) (x':={ r with log:=al,eps:=pl }) (fa hz2 fun _ _ h=>RE.le (hg4.trans hg5) h) hr2 (by simp) fun cs h hl=>by
   obtain⟨A5,c5,B5,d5,rfl,q1,q2,q3,q4⟩:=h;exact⟨A5,c5,A9,c9,rfl,q1,hv5,q3,q4⟩
  rwa [List.set_set]at this
 generalize eo zs2 (k * 7+5) [.slice A9 pl.length c9]=zs3 at *;refine dU (h':=⟨G5,PtL p x A c (some ⟨ga,0,none⟩) d ys zs3++[.blk bb [.int .i64 mb.base]],[]⟩) (dX (.cons _ KJ)) ?_;intros;refine gR 85 86 c66r15.eq_1 ?_;intros;refine gC ?_;refine gb (fun k5=>?_) (fun k5=>?_)
 ·have k5:=KM k5;intros;refine gR 87 88 c66r16.eq_1 ?_;intros;refine ea (ee [.blk bb [.int .i64 mb.base]] rfl (by simp[PtL]) (ec dS) (herr pe mb.base p _ k5 mb.base ?_));rw[happ,if_pos k5]
 have k5:pe=0:=by simpa using k5
 rw[if_neg (fun h=>h k5)]at happ;have hal:=mE (l:=r.log) (b:={ mb with epoch:=p.epoch }) (by rw[hap];exact k4);rw[hap]at hal;have hca2:=hal.2.2.1;dsimp only at hca2;have hraise:=kI (hO p k { r with log:=al,eps:=pl }) x A c (some ⟨ga,0,none⟩) d ys zs3 G5 hy hz3 (l4 hr rfl (fO hok)) (fun m hm=>by show m∈gj (p.reps.set k _);rw[nB (y:={ r with log:=al,eps:=pl }) hr rfl];exact hok.2.1.2 m hm)
  (fun z hz=>by
   rcases List.mem_or_eq_of_mem_set hz with hz | rfl
   ·exact mP hsm.1 z hz
   ·exact⟨na hca2,by have:=(ib hca2).2.2.2;show al.segs.length≤_;omega,by have:=hsr.2.2;show pl.length≤_;omega⟩) hI
 rw[oo]at hraise;rw[happ];intros;refine gN ?_;intros;refine gR 88 90 c66r17.eq_1 ?_;refine(hraise _ _).mono ?_;rintro r' h' ⟨G6,L',rfl,hg6,rfl,zs',rfl,hz'⟩;refine sI ?_;intros;refine gR 0 0 c66r18.eq_1 ?_;intros;refine ea (ee _ rfl KJ (fun s cs hm=>?_) ⟨rfl,_,_,rfl,⟨mb.base,rfl,fun _=>rfl⟩,fun h=>absurd rfl h,fun _=>⟨A,c,some ⟨ga,0,none⟩,d,ys,zs',rfl,?_,hz',kV (p:=hO p k _) hI⟩⟩)
 ·rcases List.mem_append.1 hm with h | h
  ·exact eU s cs h
  ·simp at h
 ·rw[(gW (hO p k { r with log:=al,eps:=pl })).2.2.2.1];exact hy
def JV(q:(Pt × Int) × Int)(G:Ks)(r:Value):Prop:=∃ cs,r=.tuple #[.agg cs.toArray,.int .i64 q.2,.int .i64 q.1.2]∧PE G q.1.1 cs
theorem oO(p:Pt)(b:Batch)(cs cb:Kt)(G:Ks)(hp:PE G p cs)(hsm:smP p)(hb:BE G b cb):FnD Tryz.prog 25 #[.agg cs.toArray,.agg cb.toArray] G (JV (EF p b)):=by
 have hp0:=hp;have hb0:=hb;obtain⟨A,c,B,d,rfl,-,-,hI⟩:=hp;obtain⟨B2,d2,rfl,-⟩:=hb;refine F25.fnD (by simp) (dY ?_);unfold c25;unfold eB at hp0 ⊢;unfold fu at hb0 ⊢;intros;refine gR 0 0 c25r0.eq_1 ?_;intro b3 hb3 b5 hb5;refine sI ?_;intros;refine eI (eP [_,_] _) ?_;rintro h' ⟨G1,rfl,hg1,f3⟩
 have hch:=oe p _ 66 #[.pointer (some ⟨b3,0,none⟩),.pointer (some ⟨b5,0,none⟩)] (lG b p).1 [.blk b5 [.int .i64 0]] (BT (lG b p) b5) G1 (hp0.le hg1) hsm (ec dS) (fun C h=>by obtain⟨v,rfl,-⟩:=h;exact ec dS) fun hok =>
  sf p b _ b3 b5 G1 hok hsm hI (BE.le hg1 hb0) fun j u hu=>by have:=f3 j u hu;rwa [gB]at this
 have hq:EF p b=if (mc p (lG b p).1).2=0 then(mc p (lG b p).1,(lG b p).2)else((jZ,(mc p (lG b p).1).2),0):=rfl
 intros;refine gR 7 13 c25r1.eq_1 ?_;refine(hch _ _).mono ?_;rintro r h' ⟨G2,L',rfl,hg2,⟨cs2,rfl,hpe⟩,-,hL⟩;obtain⟨v,rfl,hv⟩:∃ v,L'=[.blk b5 [.int .i64 v]]∧((mc p (lG b p).1).2=0→v=(lG b p).2):=by
  rcases hL with⟨v,h1,h2⟩ | ⟨h1,h2⟩
  ·refine⟨v,h1,fun h=>h2 ?_⟩;unfold mc at h;split at h
   ·split at h
    ·assumption
    ·exact h
   ·rename_i h3;exact absurd h h3
  ·refine⟨0,h2,fun h=>?_⟩;rw[mc,if_neg h1]at h;exact absurd h h1
 generalize hcq:mc p (lG b p).1=cq at *;have hpe0:=hpe;obtain⟨A2,c2,B2,d2,rfl,-⟩:=hpe;unfold eB at hpe0 ⊢;refine sI ?_;intros;refine gR 13 14 c25r2.eq_1 ?_;intros;refine gC ?_;refine gb (fun k1=>?_) (fun k1=>?_)
 ·have k1:=KM k1;intros;refine gR 15 17 c25r3.eq_1 ?_;refine ek [] _ rfl (by simp) ⟨rfl,rfl⟩ ?_;refine sI ?_;intros;refine ea (kd (out:=[.agg #[.int .i64 0,.int .i64 0,.int .i64 0,.slice none 0 0,.slice none 0 0],.int .i64 0,.int .i64 cq.2]) ?_ ?_)
  ·simp[o25,mR,Kx.getR,Kx.getB,vg,ldC,Env.set]
  rw[hq,if_neg k1];exact⟨_,rfl,none,0,none,0,rfl,slN,slN,jh,jh,jh⟩
 have k1:cq.2=0:=by simpa using k1
 intros;refine gN ?_;intros;refine dT ?_;refine qe _ (.cons_cons _ (.cons_cons _ KL)) (by decide) ?_;refine sJ c25r4.eq_1 ?_;refine⟨_,dZ (.head _) rfl,?_⟩;refine sI ?_;refine⟨⟨KO,.cons_cons _ (.cons_cons _ KL),rfl⟩,?_⟩;refine ek [] _ rfl (by simp) ⟨rfl,rfl⟩ ?_;refine sI ?_;refine gG ?_;refine sI ?_;intros
 refine ea (kd (out:=[.agg #[.int .i64 cq.1.epoch,.int .i64 cq.1.leader,.int .i64 cq.1.least,.slice A2 cq.1.isr.length c2,.slice B2 cq.1.reps.length d2],.int .i64 v,.int .i64 0]) ?_ ?_)
 ·simp[o25,mR,Kx.getR,Kx.getB,vg,ldC,Env.set]
 rw[hq,if_pos k1];refine⟨_,?_,hpe0⟩;rw[hv k1,k1];rfl
theorem F13:Fun Tryz.prog 13 64 v13 c13 o13:=Fun.mkA Tryz.func13 Tryz.ntmps13
theorem F15:Fun Tryz.prog 15 26 v15 c15 o15:=Fun.mkA Tryz.func15 Tryz.ntmps15
def newR(L0:Lg)(n:Int):Rp:=⟨n,true,L0,[],0⟩
theorem Dr(l:KG)(limit least:Int)(v:Value)(G:Ks)(hl:SlV G IE 1 v l)(hb:l.length≤100000)(hi:I64 least):FnD Tryz.prog 13 #[v,.int .i64 limit,.int .i64 least] G (PtR (BL l limit least)):=by
 have hl0:=hl;obtain⟨A,c,rfl,hc,hmx,hA⟩:=hl;refine F13.fnD (by simp) (dY ?_);unfold c13;intros;refine gR 0 0 c13r0.eq_1 ?_;intros;refine gR 13 18 c13r1.eq_1 ?_;refine(CN limit 0 G _ _).mono ?_;rintro r h' ⟨G1,rfl,hg1,cs,rfl,hle⟩
 have hnp1:((x8 limit 0).2=0∧gE l∧l.length≤5∧1≤least∧least≤(l.length:Int))→BL l limit least=(⟨1,l.headD 0,least,l,l.map (newR (x8 limit 0).1)⟩,0):=fun h=>by unfold BL;rw[if_pos h];rfl
 have hnp0:¬ ((x8 limit 0).2=0∧gE l∧l.length≤5∧1≤least∧least≤(l.length:Int))→BL l limit least=(jZ,1):=fun h=>by unfold BL;rw[if_neg h]
 have hl1:=hl0.le (E':=IE) hg1 KO;generalize x8 limit 0=nl at *;obtain⟨L0,e0⟩:=nl;dsimp only at hle hnp0 hnp1;have hle0:=hle;obtain⟨A3,c3,rfl,hs3,hlim⟩:=hle
 have hno:¬ (e0=0∧gE l∧l.length≤5∧1≤least∧least≤(l.length:Int))→∀ (fr:KA) (e:Env),go none Tryz.prog 64 v13.1 v13.2 (fI o13 fun v h=>PtR (BL l limit least) h.G v) (Td.s ((SC.reg false c13r3).seq .ret) :: fr) e ⟨G1,[.reg 8 [.int .i64 L0.limit,.int .i64 L0.start,.slice A3 L0.segs.length c3],.reg 6 [.int .i64 0,.int .i64 0,.int .i64 0,.slice none 0 0,.slice none 0 0]],[]⟩:=fun hn fr e=>by
  intros;refine gR 40 41 c13r3.eq_1 ?_;intros;refine ea (kd rfl ?_);rw[hnp0 hn];exact gU _ _
 unfold eG;refine sI ?_;intros;refine gR 18 39 c13r2.eq_1 ?_;refine gd (fun k1=>?_) (fun k1=>?_)
 ·have k1:=KM k1;refine sI ?_;intros;refine gC ?_;exact hno (fun h=>k1 h.1) _ _
 have k1:e0=0:=by simpa using k1
 refine sI ?_;refine fK (pq _ _ _ hl1 _ _) ?_;refine gd (fun k2=>?_) (fun k2=>?_)
 ·have k2:Bv l=false:=by simpa using k2
  refine sI ?_;intros;refine gC ?_;exact hno (fun h=>by have:=tc h.2.1;rw[k2]at this;cases this) _ _
 have k2:gE l:=o3.1 (by simpa using k2);refine sI ?_;refine gdD (fun k3=>?_) (fun k3=>?_)
 ·refine sI ?_;intros;refine gC ?_;exact hno (fun h=>by have:=h.2.2.1;omega) _ _
 refine sI ?_;refine gdD (fun k4=>?_) (fun k4=>?_)
 ·refine sI ?_;intros;refine gC ?_;exact hno (fun h=>by have:=h.2.2.2.1;omega) _ _
 refine sI ?_;intros;refine gC ?_;refine gbD (fun k5=>?_) (fun k5=>?_)
 ·exact hno (fun h=>by have:=h.2.2.2.2;omega) _ _
 rw[hnp1 ⟨k1,k2,by omega,by omega,by omega⟩];clear hno hnp0 hnp1;obtain⟨y0,hy0⟩:∃ y,l[0]?=some y:=⟨l[0]'(List.length_pos_iff.2 k2.1),getElem?_eq_getElem _⟩;have hhd:l.headD 0=y0:=by
  cases l with
  | nil=>cases hy0
  | cons a l=>cases hy0;rfl
 have hy0i:I64 y0:=by
  obtain⟨a,u,_,hu,_⟩:=hA.at1 hy0 [] [];exact hu.2
 have hcl:=fun G2 (hg:Gle G1 G2)=>rb l _ G2 (hl1.le (E':=IE) hg KO) (by omega)
 rw[hhd];obtain⟨A0,c0,he0,hc0,hm0,hA1⟩:=id hl1;cases he0;intros;refine gN ?_;intros;try refine ed ?_
 refine eL (fun e h=>∃ (G2:Ks) (b10:Nat) (A4:Ky) (c4:Nat) (ys:Kt) (Lh:Kv),(Gle G1 G2∧Cells IE 1 l ys)∧e 10=.pointer (some ⟨b10,0,none⟩)∧e 0=.slice A l.length c∧h=⟨G2,Lh,[]⟩∧Lh.Perm [.blk b10 [.int .i64 1,.int .i64 y0,.int .i64 least,.slice A4 l.length c4,.slice none 0 0],.row (.slice A4 l.length c4) 3 1 l.length ys,.reg 8 [.int .i64 L0.limit,.int .i64 L0.start,.slice A3 L0.segs.length c3],.reg 6 [.int .i64 0,.int .i64 0,.int .i64 0,.slice none 0 0,.slice none 0 0]]) ?_ ?_
 ·intros;refine dT ?_;refine zK _ KJ (by decide) ?_;refine sJ c13r4.eq_1 ?_;refine hA1.y_l1 hy0 rfl rfl ?_;rintro a1 ha1 u1 ⟨hu,-⟩;cases hu;refine sI ?_;refine⟨?_,?_⟩
  ·refine(jd (hcl G1 (.refl _)) _ _).mono ?_;rintro r h' ⟨G2,L',rfl,hg2,A4,c4,ys,rfl,-,hys,rfl⟩;refine⟨ef hg2 (.cons _ KJ),?_⟩;refine sI ?_;intro b10 hb10;refine⟨ef hg2 (.cons _ (.cons _ KJ)),?_⟩;refine sI ?_;refine ek [] _ rfl (by simp) ⟨rfl,rfl⟩ ?_;refine sI ?_;refine⟨ef hg2 (.cons _ (.cons _ KJ)),?_⟩;refine sI ?_;exact eF ⟨G2,b10,A4,c4,ys,_,⟨hg2,hys⟩,eE,eE,rfl,List.Perm.refl _⟩
  ·intro b10 hb10;refine⟨ef KO (.cons _ KJ),?_⟩;refine sI ?_;refine(jd (hcl G1 (.refl _)) _ _).mono ?_;rintro r h' ⟨G2,L',rfl,hg2,A4,c4,ys,rfl,-,hys,rfl⟩;refine⟨ef hg2 (.cons _ (.cons _ KJ)),?_⟩;refine sI ?_;refine ek [_] _ rfl (by simp) ⟨rfl,rfl⟩ ?_;refine sI ?_;refine⟨ef hg2 (.cons _ (.cons _ KJ)),?_⟩;refine sI ?_;exact eF ⟨G2,b10,A4,c4,ys,_,⟨hg2,hys⟩,eE,eE,rfl,List.Perm.swap _ _ _⟩
 rintro e h ⟨G2,b10,A4,c4,ys,Lh,⟨hg2,hys⟩,e10,e0,rfl,hperm⟩;refine dV [0,10] ?_;refine sJ2 @e0 @e10 ?_;intros;refine dU (eO hperm) ?_;refine eI (eh [_] _ (by decide) hys) ?_;rintro h' ⟨G3,rfl,hg3,hv3⟩;have hg23:=hg2.trans hg3;have hA3:=hA1.le (E':=IE) hg23 KO;have hs3:=SlSE.le hg23 hs3;refine dU (eA none 50 7) ?_;have hml:∀ k,((l.take k).map (newR L0)).length≤l.length:=fun k=>by simp;omega
 intros;try refine ed ?_
 refine eL (fun e h=>∃ (u:Value) (zc:Kt),Cells (RE G3) 7 (l.map (newR L0)) zc∧e 10=.pointer (some ⟨b10,0,none⟩)∧h=⟨G3,[.row u 50 7 l.length zc,.blk b10 [.int .i64 1,.int .i64 y0,.int .i64 least,.slice A4 l.length c4,u],.reg 8 [.int .i64 L0.limit,.int .i64 L0.start,.slice A3 L0.segs.length c3],.reg 6 [.int .i64 0,.int .i64 0,.int .i64 0,.slice none 0 0,.slice none 0 0]],[]⟩) ?_ ?_
 ·intros;try refine ed ?_
  intros;refine gR 0 0 c13r5.eq_1 ?_;intros;refine dT ?_
  refine ej (fun e h=>∃ (k:Nat) (u:Value) (zc:Kt),(k≤l.length∧Cells (RE G3) 7 ((l.take k).map (newR L0)) zc)∧e 50=.int .i64 k∧e 49=.int .i64 l.length∧e 48=.slice A l.length c∧e 10=.pointer (some ⟨b10,0,none⟩)∧h=⟨G3,[.row u 50 7 ((l.take k).map (newR L0)).length zc,.blk b10 [.int .i64 1,.int .i64 y0,.int .i64 least,.slice A4 l.length c4,u],.reg 8 [.int .i64 L0.limit,.int .i64 L0.start,.slice A3 L0.segs.length c3],.reg 6 [.int .i64 0,.int .i64 0,.int .i64 0,.slice none 0 0,.slice none 0 0]],[]⟩) (fun e h=>l.length - iv (e 50)) ?_ ?_
  ·exact⟨0,.slice none 0 0,[],⟨Nat.zero_le _,.nil⟩,eE,eE,eE,eE,rfl⟩
  rintro e h ⟨k,u,zc,⟨hk,hzc⟩,e50,e49,e48,e10,rfl⟩;refine dV [10,48,49,50] ?_;refine sJ4 @e10 @e48 @e49 @e50 ?_;intros;refine gR 0 0 c13r6.eq_1 ?_;intros;refine gC ?_;refine gb (fun ht=>?_) (fun ht=>?_)
  ·have ht:k < l.length:=by have:=KM ht;omega
   have hw:=eW k c (by omega) hmx;obtain⟨n,hn⟩:∃ s,l[k]?=some s:=⟨l[k],getElem?_eq_getElem (by omega)⟩;have htk:(l.take (k+1)).map (newR L0)=(l.take k).map (newR L0)++[newR L0 n]:=by rw[eR hn,List.map_append];rfl
   have hkl:=hml k;intros;refine gN ?_;intros;refine gR 52 54 c13r7.eq_1 ?_;refine hA3.x_l1 hn rfl rfl ?_;rintro a1 ha1 u1 ⟨hu,hni⟩;cases hu;refine sI ?_;have hre:RE G3 (newR L0 n) [.int .i64 n,.bool true,.int .i64 L0.limit,.int .i64 L0.start,.slice A3 L0.segs.length c3,.slice none 0 0,.int .i64 0]:=⟨A3,c3,none,0,rfl,hs3,slN,hlim,hni,jh⟩;intros;refine gR 54 62 c13r8.eq_1 ?_
   refine⟨_,dZ (.tail _ (.head _)) rfl,?_⟩;refine sI ?_;intro bk hbk;refine xj (L1:=[]) (L2:=[_,_,_]) (E:=RE G3) (x:=newR L0 n) rfl hre rfl (by simp[Value.oneCell']) hzc (by omega) (by omega) fun A' c' zc' hzc'=>?_
   rw[← htk]at hzc' ⊢;refine sI ?_;refine ek [_,_] [_,_] rfl (by simp) ⟨rfl,rfl⟩ ?_;refine sI ?_;intros;refine gN ?_;refine dU (dX (.cons _ KJ)) ?_;intros;refine gR2 62 63 c13r9.eq_1 @hw ?_;intros;refine dT ?_;refine eF ⟨⟨k+1,_,zc',⟨by omega,hzc'⟩,eE,eE,eE,eE,rfl⟩,?_⟩;refine sI ?_;omega
  ·have ht:k=l.length:=by have:=KN ht;omega
   subst ht;rw[take_length]at hzc ⊢;rw[List.length_map];refine eg ?_;refine sI ?_;intros;refine gN ?_;exact eF ⟨u,zc,hzc,eE,rfl⟩
 rintro e h ⟨u,zc,hzc,e10,rfl⟩;refine dV [10] ?_;refine sJ @e10 ?_;intros;refine eI (eh [] _ (by decide) hzc) ?_;rintro h' ⟨G4,rfl,hg4,hv4⟩;obtain⟨A5,c5,rfl,hc5,hm5,hA5⟩:=hv4;rw[List.length_map];intros;refine gR 63 64 c13r10.eq_1 ?_;refine⟨_,lB (us:=[.int .i64 1,.int .i64 y0,.int .i64 least,.slice A4 l.length c4,.slice A5 l.length c5]) (.head _) rfl (fun j u h=>by rw[Nat.zero_add];exact h),?_⟩
 refine sI ?_;intros;refine rW ?_;refine⟨_,rfl,A4,c4,A5,c5,?_,hv3.le (E':=IE) hg4 KO,?_,show I64 1 from by unfold I64;decide,hy0i,hi⟩
 ·unfold eB;dsimp only;rw[List.length_map]
 ·show SlV G4 (RE G4) 7 (.slice A5 (l.map (newR L0)).length c5) (l.map (newR L0));exact⟨A5,c5,rfl,hc5,hm5,hA5.le KO fun _ _ h=>RE.le hg4 h⟩
theorem qm{G:Ks}{l:List Rp}{B:Ky}{n d:Nat}{k:Nat}{r:Rp}(h:SlV G (RE G) 7 (.slice B n d) l)(hr:l[k]?=some r):
  ∃ a A1 c1 B1 d1,B=some a∧RE G r (fk r A1 c1 B1 d1)∧(∀ L D,LdN ⟨G,L,D⟩ (.pointer (some ((a.add (k * 7)).add 2))) (some 3) (.agg (eG r.log A1 c1).toArray))∧∀ L D o u,(fk r A1 c1 B1 d1)[o]?=some u→LdN ⟨G,L,D⟩ (.pointer (some ((a.add (k * 7)).add o))) none u:=by
 obtain⟨A0,d0,he,-,-,hA⟩:=h;cases he;obtain⟨a,cs,ha,h1,h2,h4⟩:=hA k r hr;have h20:=h2;obtain⟨A,c,B,d,rfl,-⟩:=h2;refine⟨a,A,c,B,d,ha,h20,fun L D=>⟨_,_,rfl,rfl,rfl,fun j u hu=>?_⟩,fun L D o u hu=>⟨_,rfl,?_⟩⟩
 ·rw[gy,gy];refine .g (h4 (2+j) u ?_)
  match j,hu with
  | 0,h=>exact h
  | 1,h=>exact h
  | 2,h=>exact h
  | j+3,h=>cases h
 ·rw[gy];exact .g (h4 o u hu)
theorem mM{p:Pt}(h:okP p)(h0:¬ p.leader < 0):∃ k r,atR p.reps p.leader=some k∧p.reps[k]?=some r∧r.id=p.leader:=by
 obtain⟨r0,hr0,hl0⟩:∃ r∈p.reps,r.id=p.leader:=by
  rcases h.2.2 with h | ⟨⟨r,hr,h,-⟩,-⟩
  ·omega
  ·exact⟨r,hr,h⟩
 exact lb (l:=p.reps) (n:=p.leader) (List.mem_map.2 ⟨r0,hr0,hl0⟩)
theorem Dy(p:Pt)(cs:Kt)(G:Ks)(hp:PE G p cs)(hsm:smP p):FnD Tryz.prog 15 #[.agg cs.toArray] G (LgR (ji p)):=by
 have hchk:=kq p cs G hp hsm;have hp0:=hp;obtain⟨A,c,B,d,rfl,hv1,hv2,hI⟩:=hp;refine F15.fnD (by simp) (dY ?_);unfold c15;unfold eB at hchk ⊢;intros;refine gR 0 0 c15r0.eq_1 ?_;intros;refine gR 6 8 c15r1.eq_1 ?_;refine fK (hchk _ _) ?_;intros;refine gR 8 9 c15r2.eq_1 ?_;intros;refine gC ?_;refine gb (fun k1=>?_) (fun k1=>?_)
 ·have k1:=KM k1;intros;refine gR 10 12 c15r3.eq_1 ?_;intros;refine rW ?_;rw[ji,if_pos k1];exact gV
 have k1:fA p=0:=by simpa using k1
 have hok:=jt k1;intros;refine gN ?_;intros;refine gR 13 14 c15r4.eq_1 ?_;intros;refine gC ?_;refine gbD (fun k2=>?_) (fun k2=>?_)
 ·intros;refine gR 15 16 c15r5.eq_1 ?_;intros;refine rW ?_;rw[ji,if_neg (fun h=>h k1),if_pos k2];exact gV
 obtain⟨k,r,hk,hr,-⟩:=mM hok k2;have hld:ji p=(r.log,0):=by
  rw[ji,if_neg (fun h=>h k1),if_neg k2,hk];dsimp only;rw[hr];rfl
 rw[hld];intros;refine gN ?_;intros;refine gR 16 19 c15r6.eq_1 ?_;intro x hx;refine sI ?_;intros;refine eI (eP [] _) ?_;rintro h' ⟨G1,rfl,hg1,f1⟩;have hpt:PtG G1 p x A c B d:=⟨fun j u hu=>by have:=f1 j u hu;rwa [gB]at this,hv1.le (E':=IE) hg1 KO,SlR.le hg1 hv2⟩;obtain⟨a,A1,c1,B1,d1,rfl,hre,hl3,-⟩:=qm hpt.2.2 hr;obtain⟨A9,c9,B9,d9,he9,hs9,-,hlim,-⟩:=hre;unfold fk at he9;cases he9;unfold eG at hl3
 have hat:=zj p x A c (some a) d p.leader G1 hpt hI.2.1 (fO hok);rw[hk]at hat;have hat:FnS Tryz.prog 51 #[.pointer (some ⟨x,0,none⟩),.int .i64 p.leader] G1 (.pointer (some (a.add (k * 7)))):=hat;intros;refine gR 19 26 c15r7.eq_1 ?_;refine fK (hat _ _) ?_;refine⟨_,hl3 _ _,?_⟩;refine sI ?_;intros;refine rW ?_;exact⟨_,rfl,A1,c1,rfl,hs9,hlim⟩
theorem F20:Fun Tryz.prog 20 32 v20 c20 o20:=Fun.mkA Tryz.func20 Tryz.ntmps20
def sT(l:List Rp)(m n:Int):Int:=max m (match atR l n with | some k=>(l[k]?.map (·.high)).getD 0 | none=>0)
theorem Er{l:List Rp}{m n:Int}{k:Nat}{r:Rp}(h:atR l n=some k)(hr:l[k]?=some r):sT l m n=max m r.high:=by
 unfold sT;rw[h];dsimp only;rw[hr];rfl
theorem pW(p:Pt)(cs:Kt)(G:Ks)(hp:PE G p cs)(hsm:smP p):FnS Tryz.prog 20 #[.agg cs.toArray] G (.int .i64 (nR p)):=by
 have hchk:=fun G' hg=>kq p cs G' (hp.le hg) hsm
 obtain⟨A,c,B,d,rfl,hv1,hv2,hI⟩:=hp;refine F20.fnS (by simp) (dY ?_);unfold c20;have hself:∀ j u,(eB p A c B d)[j]?=some u→(eB p A c B d)[0+j]?=some u:=fun j u h=>by rw[Nat.zero_add];exact h
 unfold eB at hchk hself ⊢;intros;refine gR 0 0 c20r0.eq_1 ?_;intro b1 hb1;refine sI ?_;intros;refine eI (eP [] _) ?_;rintro h' ⟨G1,rfl,hg1,f1⟩;have f1:∀ j u,(eB p A c B d)[j]?=some u→fB G1 ⟨b1,j,none⟩=some u:=fun j u hu=>by have:=f1 j u hu;rwa [gB]at this
 have hchk:=hchk G1 hg1;intros;refine gR 6 8 c20r1.eq_1 ?_;refine⟨_,⟨_,_,rfl,rfl,rfl,fun j u hu=>.g (by rw[gB];exact f1 j u hu)⟩,?_⟩;refine sI ?_;refine fK (hchk _ _) ?_;intros;refine gC ?_;refine gb (fun k1=>?_) (fun k1=>?_)
 ·have k1:=KM k1;intros;refine gR 0 0 c20r2.eq_1 ?_;intros;refine rW ?_;rw[nR,if_pos k1]
 have k1:fA p=0:=by simpa using k1
 have hok:=jt k1;intros;refine gN ?_;intros;refine gR 9 12 c20r3.eq_1 ?_;refine⟨_,⟨_,_,rfl,rfl,rfl,fun j u hu=>.g (by rw[gB];exact f1 j u hu)⟩,?_⟩;refine sI ?_;intro x hx;refine sI ?_;intros;refine eI (eP [] _) ?_;rintro h' ⟨G2,rfl,hg2,f2⟩;have hg02:=hg1.trans hg2;have hpt:PtG G2 p x A c B d:=⟨fun j u hu=>by have:=f2 j u hu;rwa [gB]at this,hv1.le (E':=IE) hg02 KO,SlR.le hg02 hv2⟩
 have f1:∀ j u,(eB p A c B d)[j]?=some u→fB G2 ⟨b1,j,none⟩=some u:=fun j u hu=>em hg2 (f1 j u hu)
 have hd:decide (p.leader≥0)=decide (0≤p.leader):=rfl;intros;refine gR 12 14 c20r4.eq_1 ?_;refine⟨_,⟨_,rfl,.g (f1 1 _ rfl)⟩,?_⟩;refine sI ?_;intros;refine gC ?_;refine gb (fun k2=>?_) (fun k2=>?_)
 ·have k2:0≤p.leader:=KM k2;obtain⟨k,r,hk,hr,-⟩:=mM hok (by omega);obtain⟨a,A1,c1,B1,d1,rfl,-,-,hf⟩:=qm hpt.2.2 hr;have hat:=zj p x A c (some a) d p.leader G2 hpt hI.2.1 (fO hok);rw[hk]at hat;have hat:FnS Tryz.prog 51 #[.pointer (some ⟨x,0,none⟩),.int .i64 p.leader] G2 (.pointer (some (a.add (k * 7)))):=hat;intros;refine gR 15 22 c20r5.eq_1 ?_;refine⟨_,⟨_,rfl,.g (f1 1 _ rfl)⟩,?_⟩;refine sI ?_
  refine fK (hat _ _) ?_;refine⟨_,hf _ _ 6 _ rfl,?_⟩;refine sI ?_;intros;refine rW ?_;rw[nR,if_neg (fun h=>h k1),if_pos k2,hk];dsimp only;rw[hr];rfl
 have k2:¬ 0≤p.leader:=KN k2;have hhp:nR p=p.isr.foldl (sT p.reps) 0:=by rw[nR,if_neg (fun h=>h k1),if_neg k2];rfl
 rw[hhp];intros;refine gN ?_;intros;refine gR 0 0 c20r6.eq_1 ?_;intro b4 hb4;refine ek [] _ rfl (by simp) ⟨rfl,rfl⟩ ?_;refine sI ?_;intros;refine gR 22 23 c20r7.eq_1 ?_;refine(qZ p x G2 _ _).mono ?_;rintro rr h' ⟨G3,rfl,hg3,b5,rfl,hb5⟩;have hpt3:=hpt.le hg3;have hit:=mX p x b5 A c B d G3 hpt3 (fO hok) hb5;refine sI ?_;intros;refine dT ?_
 refine sn (α:=Int) (fun t G' L'=>L'=[.blk b4 [.int .i64 ((p.isr.take t).foldl (sT p.reps) 0)]]) (fun _ _ _ _=>False) (eE) F111.enters (ec dS) (fun _ _ _ _ _ h=>h) hit (fun G x args h=>by cases h;rfl) rfl ?_ ?_ ?_
 ·rintro yl t n args G' L' hx hgl rfl rfl _;obtain⟨i,y,hi,hiy,hyn⟩:=lb (hok.2.1.2 n (mem_of_getElem? hx));have hnext:(p.isr.take (t+1)).foldl (sT p.reps) 0=max ((p.isr.take t).foldl (sT p.reps) 0) y.high:=by rw[pI _ _ hx,Er hi hiy]
  obtain⟨a,A1,c1,B1,d1,hBa,-,-,hf⟩:=qm (hpt3.le hgl).2.2 hiy;have hptr:uN B (some i)=some (a.add (i * 7)):=by rw[hBa];rfl
  rw[hi,hptr,hnext];generalize (p.isr.take t).foldl (sT p.reps) 0=m0 at *;refine sI ?_;intros;refine gR 0 0 c20r8.eq_1 ?_;intro bb;refine gD (rS ?_);intros;try refine ed ?_
  intros;refine dT ?_;intros;refine dT ?_;refine EP (by decide) ?_;refine sJ c20r9.eq_1 ?_;refine⟨_,dZ (.head _) rfl,?_⟩;refine sI ?_;refine⟨_,hf _ _ 6 _ rfl,?_⟩;refine sJ c20r10.eq_1 ?_;refine ek [] _ rfl (by simp) ⟨rfl,rfl⟩ ?_;refine sI ?_;intros;refine gN ?_;refine gD (rk _ KJ (ec dS) rfl)
 ·rintro G' L' dd hgl rfl _;rw[take_length];intros;refine gN ?_;intros;refine gR 31 32 c20r11.eq_1 ?_;refine⟨_,dZ (.head _) rfl,?_⟩;refine sI ?_;intros;refine rV ?_;simp only[push_cast,Nat.reduceBEq]
 ·rintro ex i G' L' d _ _ h;exact h.elim
theorem F168:Fun Tryz.prog 168 32 v168 c168 o168:=Fun.mkA Tryz.func168 Tryz.ntmps168
theorem F135:Fun Tryz.prog 135 62 v135 c135 o135:=Fun.mkA Tryz.func135 Tryz.ntmps135
theorem vr(a b:KE)(v u:Value)(G:Ks)(ha:SlV G (BE G) 10 v a)(hb:SlV G (BE G) 10 u b):FnS Tryz.prog 168 #[v,u,.func (.func 169) #[] #[]] G (.bool (decide (a=b))):=by
 obtain⟨A,c,rfl,hc,hmx,hA⟩:=ha;obtain⟨B,d,rfl,hd,hmy,hB⟩:=hb;refine F168.fnS (by simp) (dY ?_);unfold c168;intros;refine gR 0 0 c168r0.eq_1 ?_;intros;refine gR 10 14 c168r1.eq_1 ?_;intros;refine gC ?_;refine gb (fun k1=>?_) (fun k1=>?_)
 ·have k1:=KM k1;intros;refine gR 0 0 c168r2.eq_1 ?_;intros;refine rW ?_;rw[decide_eq_false fun h=>k1 (by rw[h])]
 have k1:a.length=b.length:=by have:=KN k1;omega
 intros;refine gN ?_;intros;refine gR 0 0 c168r3.eq_1 ?_;intros;refine dT ?_;refine ej (fun e h=>∃ k:Nat,(k≤a.length∧a.take k=b.take k)∧e 17=.int .i64 k∧e 16=.int .i64 a.length∧e 15=.slice A a.length c∧e 1=.slice B b.length d∧e 2=.func (.func 169) #[] #[]∧h=⟨G,[],[]⟩) (fun e h=>a.length - iv (e 17)) ?_ ?_
 ·exact⟨0,⟨Nat.zero_le _,rfl⟩,eE,eE,eE,eE,eE,rfl⟩
 rintro e h ⟨k,⟨hk,heq⟩,e17,e16,e15,e1,e2,rfl⟩;refine dV [1,2,15,16,17] ?_;refine sJ5 @e1 @e2 @e15 @e16 @e17 ?_;intros;refine gR 0 0 c168r4.eq_1 ?_;intros;refine gC ?_;refine gb (fun ht=>?_) (fun ht=>?_)
 ·have ht:k < a.length:=by have:=KM ht;omega
  have hw:=eW k c (by omega) hmx;obtain⟨x,hx⟩:∃ s,a[k]?=some s:=⟨a[k],getElem?_eq_getElem (by omega)⟩;obtain⟨y,hy⟩:∃ s,b[k]?=some s:=⟨b[k],getElem?_eq_getElem (by omega)⟩;intros;refine gN ?_;intros;refine gR 19 22 c168r5.eq_1 ?_;refine hA.x_ld hx rfl rfl ?_;rintro a1 ha1 cs hbx;have hbx0:=hbx;obtain⟨B1,d1,rfl,-⟩:=hbx;unfold fu at hbx0 ⊢;refine sI ?_;intros;refine gR 22 26 c168r6.eq_1 ?_
  refine hB.x_ld hy (by omega) rfl ?_;rintro a2 ha2 cs hby;have hby0:=hby;obtain⟨B2,d2,rfl,-⟩:=hby;unfold fu at hby0 ⊢;refine sI ?_;intros;refine gR 26 30 c168r7.eq_1 ?_;refine .inl ⟨169,#[],rfl,?_⟩;refine fK (Dh x y _ _ G hbx0 hby0 _ _) ?_;intros;refine gC ?_;refine gb (fun k2=>?_) (fun k2=>?_)
  ·have k2:¬ x=y:=by simpa using k2
   intros;refine gR 0 0 c168r8.eq_1 ?_;intros;refine rW ?_;rw[decide_eq_false fun h=>k2 (by rw[h,hy]at hx;cases hx;rfl)]
  ·have k2:x=y:=by simpa using k2
   subst k2;intros;refine gN ?_;refine dU (dX KL) ?_;intros;refine gR2 31 32 c168r9.eq_1 @hw ?_;intros;refine dT ?_;refine eF ⟨⟨k+1,⟨by omega,by rw[eR hx,eR hy,heq]⟩,eE,eE,eE,eE,eE,rfl⟩,?_⟩;refine sI ?_;omega
 ·have ht:k=a.length:=by have:=KN ht;omega
  subst ht;rw[take_length,k1,take_length]at heq;refine eg ?_;refine sI ?_;intros;refine gR 0 0 c168r10.eq_1 ?_;intros;refine rW ?_;rw[decide_eq_true heq]
theorem wb{l:Lg}{to:Int}(h:smL l.segs)(hm:l.segs.length≤1000):smL (sR l to).1.segs∧(sR l to).1.segs.length≤1000:=by
 have h0:smL hH.segs∧hH.segs.length≤1000:=⟨fun s hs=>absurd hs (by simp[hH]),by simp[hH]⟩;unfold sR;split
 ·split
  ·show smL (uV l.segs to)∧(uV l.segs to).length≤1000;unfold uV;split
   ·exact⟨fun s hs=>by simp at hs;subst hs;simp,by simp⟩
   ·refine⟨fun s hs=>?_,by have:=tV l.segs to;omega⟩;obtain⟨t,ht,rfl⟩:=List.mem_map.1 hs;have:=h t (List.mem_filter.1 ht).1;simp only[BV,List.length_take];omega
  ·exact h0
 ·exact h0
def LgB(q:Lg × Bool)(G:Ks)(r:Value):Prop:=∃ cs,r=.tuple #[.agg cs.toArray,.bool q.2]∧LE G q.1 cs
theorem sp(l lead:Lg)(to:Int)(cs ds:Kt)(G:Ks)(hl:LE G l cs)(hd:LE G lead ds)(hb:smL l.segs)(hm:l.segs.length≤1000)(hb2:smL lead.segs)(hto:I64 to):
  FnD Tryz.prog 135 #[.agg cs.toArray,.agg ds.toArray,.int .i64 to] G (LgB (ia l lead to)):=by
 have htru:=sM l to cs G hl hb hm hto;have hsm:=wb (to:=to) hb hm;have hd0:=hd;obtain⟨A,c,rfl,-⟩:=hl;obtain⟨B,d,rfl,-⟩:=hd;have hcaught:ia l lead to=if (sR l to).2≠0∨(nj lead).length < (nj (sR l to).1).length∨nj (sR l to).1≠(nj lead).take (nj (sR l to).1).length then((sR l to).1,false)else mC (sR l to).1 ((nj lead).drop (nj (sR l to).1).length):=rfl
 refine F135.fnD (by simp) (dY ?_);unfold c135;unfold eG at htru hd0 ⊢;intros;refine gR 0 0 c135r0.eq_1 ?_;intros;refine gR 13 19 c135r1.eq_1 ?_;refine(htru _ _).mono ?_;rintro r h' ⟨G1,rfl,hg1,cs1,rfl,hle⟩;generalize sR l to=tr at *;obtain⟨l1,e1⟩:=tr;dsimp only at hle hcaught hsm;have hle0:=hle;obtain⟨A1,c1,rfl,-⟩:=hle;have hall1:=Be l1 _ G1 hle0 hsm.1;unfold eG at hall1 hle0 ⊢;refine sI ?_
 intros;refine dT ?_;refine lk _ KJ (by decide) ?_;refine sJ c135r2.eq_1 ?_;refine(hall1 _ _).mono ?_;rintro r h' ⟨G2,rfl,hg2,hv1⟩;refine⟨lQ hg2,?_⟩;refine sI ?_;refine(Be lead _ G2 (LE.le (hg1.trans hg2) hd0) hb2 _ _).mono ?_;rintro r2 h' ⟨G3,rfl,hg3,hv2⟩;refine⟨lQ (hg2.trans hg3),?_⟩;refine sI ?_;have hv1:SlV G3 (BE G3) 10 r (nj l1):=hv1.le hg3 fun _ _ h=>BE.le hg3 h
 generalize nj l1=mine at *;generalize nj lead=all at *;obtain⟨A4,c4,rfl,q1,q2,q3⟩:=hv1;obtain⟨A5,c5,rfl,q4,q5,q6⟩:=hv2;have hv1:SlV G3 (BE G3) 10 (.slice A4 mine.length c4) mine:=⟨A4,c4,rfl,q1,q2,q3⟩;have hv2:SlV G3 (BE G3) 10 (.slice A5 all.length c5) all:=⟨A5,c5,rfl,q4,q5,q6⟩
 have hno:(e1≠0∨all.length < mine.length∨mine≠all.take mine.length)→∀ (fr:KA) (e:Env),go none Tryz.prog 62 v135.1 v135.2 (fI o135 fun v h=>LgB (ia l lead to) h.G v) (Td.s ((SC.reg false c135r4).seq .ret) :: fr) e ⟨G3,[.reg 6 [.int .i64 0,.int .i64 0,.slice none 0 0],.reg 4 [.int .i64 lead.limit,.int .i64 lead.start,.slice B lead.segs.length d],.reg 3 [.int .i64 l1.limit,.int .i64 l1.start,.slice A1 l1.segs.length c1]],[]⟩:=fun hn fr e=>by
  intros;refine gR 41 42 c135r4.eq_1 ?_;intros;refine ea (kd rfl ?_);rw[hcaught,if_pos hn];exact⟨_,rfl,LE.le (hg2.trans hg3) hle0⟩
 intros;refine gR 23 40 c135r3.eq_1 ?_;refine gd (fun k1=>?_) (fun k1=>?_)
 ·have k1:=KM k1;refine sI ?_;intros;refine gC ?_;exact hno (.inl k1) _ _
 have k1:e1=0:=by simpa using k1
 refine sI ?_;refine gd (fun k2=>?_) (fun k2=>?_)
 ·have k2:=KM k2;refine sI ?_;intros;refine gC ?_;exact hno (.inr (.inl (by omega))) _ _
 have k2:mine.length≤all.length:=by have:=KN k2;omega
 have htl:(all.take mine.length).length=mine.length:=by rw[List.length_take];omega
 have hpre:=SlV.pre mine.length hv2 k2;have heq:=vr mine (all.take mine.length) _ _ G3 hv1 hpre;refine sI ?_;refine⟨by omega,?_⟩;refine sI ?_;refine fK (heq _ _) ?_;intros;refine gC ?_;refine gb (fun k3=>?_) (fun k3=>?_)
 ·have k3:¬ mine=all.take mine.length:=by simpa using k3
  exact hno (.inr (.inr k3)) _ _
 have k3:mine=all.take mine.length:=by simpa using k3
 have hc2:ia l lead to=mC l1 (all.drop mine.length):=by
  rw[hcaught,if_neg];rintro(h | h | h)
  ·exact h k1
  ·omega
  ·exact h k3
 rw[hc2];clear hno hcaught heq hc2;intros;refine gN ?_;intros;refine gR 42 45 c135r5.eq_1 ?_;refine uE mine.length all.length c5 hv2 rfl rfl rfl (by omega) fun B5 hB5=>?_
 rw[take_length]at hB5 ⊢;generalize all.drop mine.length=rest at *;obtain⟨A6,c6,he6,q7,q8,hA6⟩:=hB5;cases he6;have hgt:=hg2.trans hg3;have hle1:=LE.le hgt hle0;refine sI ?_;intros;refine dT ?_
 refine ej (fun e h=>∃ (k:Nat) (cur:Lg) (G':Ks) (A':Ky) (c':Nat),(k≤rest.length∧Gle G3 G'∧LE G' cur (eG cur A' c')∧smL cur.segs∧cur.segs.length≤1000∧mC l1 rest=mC cur (rest.drop k))∧e 47=.int .i64 k∧e 46=.int .i64 rest.length∧e 45=.slice B5 rest.length (c5 - mine.length)∧h=⟨G',[.reg 6 [.int .i64 0,.int .i64 0,.slice none 0 0],.reg 4 [.int .i64 lead.limit,.int .i64 lead.start,.slice B lead.segs.length d],.reg 3 (eG cur A' c')],[]⟩) (fun e h=>rest.length - iv (e 47)) ?_ ?_
 ·exact⟨0,l1,G3,A1,c1,⟨Nat.zero_le _,.refl _,hle1,hsm.1,hsm.2,rfl⟩,eE,eE,eE,rfl⟩
 rintro e h ⟨k,cur,G',A',c',⟨hk,hg',hlc,hs1,hs2,hap⟩,e47,e46,e45,rfl⟩;refine dV [45,46,47] ?_;refine sJ3 @e45 @e46 @e47 ?_;unfold eG at hlc ⊢;intros;refine gR 0 0 c135r6.eq_1 ?_;intros;refine gC ?_;refine gb (fun ht=>?_) (fun ht=>?_)
 ·have ht:k < rest.length:=by have:=KM ht;omega
  have hw:=eW k _ (by omega) q8;obtain⟨x,hx⟩:∃ s,rest[k]?=some s:=⟨rest[k],getElem?_eq_getElem (by omega)⟩;have hdr:rest.drop k=x :: rest.drop (k+1):=by
   rw[List.drop_eq_getElem_cons ht];congr 1;exact(List.getElem?_eq_some_iff.1 hx).2
  rw[hdr,mC]at hap;have hA':=hA6.le (E':=BE G') hg' fun _ _ h=>BE.le hg' h
  intros;refine gN ?_;intros;refine gR 49 51 c135r7.eq_1 ?_;refine hA'.x_ld hx rfl rfl ?_;rintro a1 ha1 cs hbx;have hbx0:=hbx;obtain⟨B1,d1,rfl,-⟩:=hbx;unfold fu at hbx0 ⊢;have hca:=oP cur x _ _ G' hlc hs1 hs2 hbx0;have hapo:=mE (l:=cur) (b:=x);generalize j6 cur x=ax at *;obtain⟨cur2,e2⟩:=ax;dsimp only at hap hapo;refine sI ?_;intros;refine gR 51 57 c135r8.eq_1 ?_;refine(hca _ _).mono ?_
  rintro v h' ⟨G4,rfl,hg4,cs7,rfl,hle7⟩;dsimp only at hle7;have hle70:=hle7;obtain⟨A7,c7,rfl,-⟩:=hle7;unfold eG at hle70 ⊢;refine sI ?_;intros;refine gR 57 58 c135r9.eq_1 ?_;intros;refine gC ?_;refine gb (fun k4=>?_) (fun k4=>?_)
  ·have k4:=KM k4;rw[if_neg k4]at hap;intros;refine gR 59 60 c135r10.eq_1 ?_;intros;refine ea (kd rfl ?_);rw[hap];exact⟨_,rfl,hle70⟩
  ·have k4:e2=0:=by simpa using k4
   rw[if_pos k4]at hap;have hck:=(hapo k4).2.2.1;intros;refine gN ?_;refine dU (dX (L':=[.reg 6 [.int .i64 0,.int .i64 0,.slice none 0 0],.reg 4 [.int .i64 lead.limit,.int .i64 lead.start,.slice B lead.segs.length d],.reg 3 [.int .i64 cur2.limit,.int .i64 cur2.start,.slice A7 cur2.segs.length c7]]) (.cons _ KJ)) ?_;intros;refine gR2 60 61 c135r11.eq_1 @hw ?_;intros;refine dT ?_
   refine eF ⟨⟨k+1,cur2,G4,A7,c7,⟨by omega,hg'.trans hg4,hle70,na hck,by have:=(ib hck).2.2.2;omega,hap⟩,eE,eE,eE,rfl⟩,?_⟩;refine sI ?_;omega
 ·have ht:k=rest.length:=by have:=KN ht;omega
  subst ht;rw[List.drop_length,mC]at hap;refine eg ?_;refine sI ?_;intros;refine gR 61 62 c135r12.eq_1 ?_;intros;refine rW ?_;rw[hap];exact⟨_,rfl,hlc⟩
theorem F82:Fun Tryz.prog 82 67 v82 c82 o82:=Fun.mkA Tryz.func82 Tryz.ntmps82
theorem BB{l:List Ep}(h:gP l=0){i:Nat}{en:Int}(he:0≤en∧en≤1099511627777):0≤tb l i en∧tb l i en≤1099511627777:=by
 unfold tb;cases hy:l[i+1]? with
 | none=>simpa using he
 | some y =>
  have:=Bi h hy;simp[okE]at this ⊢;omega
theorem CH{a b:List Ep}{ae be m:Int}(h:lY a b ae be m)(h1:0≤ae∧ae≤1099511627777)(h2:0≤be∧be≤1099511627777):0≤m∧m≤1099511627777:=by
 rcases h with⟨-,rfl⟩ | ⟨ha,hb,⟨-,rfl⟩ | ⟨i,x,k,y,-,-,-,-,rfl⟩⟩
 ·omega
 ·omega
 ·have:=BB ha (i:=i) h1;have:=BB hb (i:=k) h2;omega
theorem C5(r lead:Rp):0≤kh r lead∧kh r lead≤1099511627777:=by
 unfold kh mN;split
 ·rename_i h;exact CH (Classical.choose_spec h) (kw _) (kw _)
 ·omega
theorem xx(l:List Rp)(k:Nat)(r lead:Rp)(ga d:Nat)(zs ds:Kt)(G:Ks)(hz:Cells (RE G) 7 l zs)(hr:l[k]?=some r)(hd:RE G lead ds)(hsr:smR r)(hsl:smR lead):
  FnO Tryz.prog 82 #[.pointer (some ⟨ga,k * 7,none⟩),.agg ds.toArray] G [.row (.slice (some ⟨ga,0,none⟩) l.length d) 50 7 l.length zs] (fun G' L' v=>v=.tuple #[]∧∃ zs',L'=[.row (.slice (some ⟨ga,0,none⟩) l.length d) 50 7 l.length zs']∧Cells (RE G') 7 (l.set k (eT r lead)) zs'):=by
 have hzl:=hz.len;have hkl:=(List.getElem?_eq_some_iff.1 hr).1;obtain⟨cs,hre,hcl,hld⟩:=hz.get hr;have hre0:=hre;have hd0:=hd;have hendr:=iB r cs G hre hsr.1 (by have:=hsr.2.1;omega);have hendl:=iB lead ds G hd hsl.1 (by have:=hsl.2.1;omega);obtain⟨A1,c1,B1,d1,rfl,q1,q2,q3,q4⟩:=hre;obtain⟨A2,c2,B2,d2,rfl,p1,p2,p3,p4⟩:=hd
 have hmeet:=Bw r.eps lead.eps (fg r.log) (fg lead.log) _ _ G q2 p2 (by have:=hsr.2.2;omega) (by have:=hsl.2.2;omega);have hmp:kh r lead=mN r.eps lead.eps (fg r.log) (fg lead.log):=rfl;refine F82.fnO (by simp) (dW dS) (dY ?_);unfold c82;unfold fk at hendr hendl hd0 ⊢;intros;refine gR 0 0 c82r0.eq_1 ?_;intros;refine dT ?_;refine lk _ KJ (by decide) ?_;refine sJ c82r1.eq_1 ?_
 refine⟨_,ff (.tail _ (.head _)) (hld 5 _ rfl),?_⟩;refine sI ?_;refine⟨_,gJ (.tail _ (.head _)) hcl hld,?_⟩;unfold fk;refine sI ?_;refine fK (hendr _ _) ?_;refine fK (hendl _ _) ?_;refine fK (hmeet _ _) ?_;rw[← hmp];have hei:=kw r.log;have hto:I64 (min (kh r lead) (fg r.log)):=by
  have:=C5 r lead;unfold I64;omega
 have hfo:(eT r lead).log=if r.log.start=lead.log.start∧r.log.start≤kh r lead∧(ia r.log lead.log (min (kh r lead) (fg r.log))).2=true then(ia r.log lead.log (min (kh r lead) (fg r.log))).1 else lead.log:=rfl
 have hle1:LE G r.log (eG r.log A1 c1):=⟨A1,c1,rfl,q1,q3⟩;have hle2:LE G lead.log (eG lead.log A2 c2):=⟨A2,c2,rfl,p1,p3⟩;have hcau:=sp r.log lead.log _ _ _ G hle1 hle2 hsr.1 hsr.2.1 hsl.1 hto;have hldl:=yL hld;unfold eG at hcau hldl;generalize hcm:kh r lead=m at *;generalize ia r.log lead.log (min m (fg r.log))=cau at *;obtain⟨cl,cb⟩:=cau;dsimp only at hfo;intros;refine gR 22 23 c82r2.eq_1 ?_
 intros;try refine ed ?_
 refine eL (fun e h=>∃ (G':Ks) (lg:Lg) (b:Bool) (A5:Ky) (c5:Nat),(Gle G G'∧LE G' lg (eG lg A5 c5)∧(eT r lead).log=if b=true then lg else lead.log)∧e 0=.pointer (some ⟨ga,k * 7,none⟩)∧e 6=.bool b∧h=⟨G',[.reg 5 (eG lg A5 c5),.reg 3 [.int .i64 lead.id,.bool lead.up,.int .i64 lead.log.limit,.int .i64 lead.log.start,.slice A2 lead.log.segs.length c2,.slice B2 lead.eps.length d2,.int .i64 lead.high],.row (.slice (some ⟨ga,0,none⟩) l.length d) 50 7 l.length zs],[]⟩) ?_ ?_
 ·intros;try refine ed ?_
  intros;refine gR 23 28 c82r3.eq_1 ?_;refine⟨_,ff (.tail _ (.tail _ (.head _))) (hld 3 _ rfl),?_⟩;refine sI ?_;have hfin:¬ (r.log.start=lead.log.start∧r.log.start≤m)→(eT r lead).log=lead.log:=fun h=>by rw[hfo,if_neg fun h2=>h ⟨h2.1,h2.2.1⟩]
  intros;refine gR 28 37 c82r4.eq_1 ?_;refine gdD (fun k1=>?_) (fun k1=>?_)
  ·refine sI ?_;intros;refine gC ?_;refine gb (fun k2=>?_) (fun k2=>?_)
   ·have k2:r.log.start≤m:=KM k2;intros;refine dT ?_;refine qe _ KJ (by decide) ?_;refine sJ c82r5.eq_1 ?_;refine⟨_,gJ (.tail _ (.tail _ (.head _))) rfl hldl,?_⟩;refine sI ?_;refine⟨_,gJ (.tail _ (.tail _ (.head _))) hcl hld,?_⟩;unfold fk;refine sI ?_;refine fK (hendr _ _) ?_;refine(hcau _ _).mono ?_;rintro v h' ⟨G1,rfl,hg1,cs7,rfl,hle7⟩;dsimp only at hle7;have hle70:=hle7
    obtain⟨A7,c7,rfl,-⟩:=hle7;unfold eG;refine sI ?_;refine gG ?_;refine sI ?_;refine gG ?_;refine sI ?_;refine eF ⟨G1,cl,cb,A7,c7,⟨hg1,hle70,?_⟩,eE,eE,rfl⟩;rw[hfo];cases cb
    ·rw[if_neg (by simp),if_neg (by simp)]
    ·rw[if_pos ⟨k1,k2,rfl⟩,if_pos rfl]
   ·have k2:¬ r.log.start≤m:=KN k2;intros;refine gN ?_;exact eF ⟨G,lead.log,false,A2,c2,⟨.refl _,hle2,by rw[hfin fun h=>k2 h.2];rfl⟩,eE,eE,rfl⟩
  ·refine sI ?_;intros;refine gC ?_;intros;refine gN ?_;exact eF ⟨G,lead.log,false,A2,c2,⟨.refl _,hle2,by rw[hfin fun h=>k1 h.1];rfl⟩,eE,eE,rfl⟩
 rintro e h ⟨G1,lg,b,A5,c5,⟨hg1,hlg,hlog⟩,e0,e6,rfl⟩;refine dV [0,6] ?_;refine sJ2 @e0 @e6 ?_;intros;try refine ed ?_
 refine eL (fun e h=>∃ (A8:Ky) (c8:Nat),LE G1 (eT r lead).log (eG (eT r lead).log A8 c8)∧e 0=.pointer (some ⟨ga,k * 7,none⟩)∧h=⟨G1,[.reg 5 (eG (eT r lead).log A8 c8),.reg 3 [.int .i64 lead.id,.bool lead.up,.int .i64 lead.log.limit,.int .i64 lead.log.start,.slice A2 lead.log.segs.length c2,.slice B2 lead.eps.length d2,.int .i64 lead.high],.row (.slice (some ⟨ga,0,none⟩) l.length d) 50 7 l.length zs],[]⟩) ?_ ?_
 ·intros;try refine ed ?_
  intros;refine gR 54 55 c82r6.eq_1 ?_;intros;refine gC ?_;refine gb (fun k1=>?_) (fun k1=>?_)
  ·have k1:b=false:=by simpa using k1
   rw[if_neg (by rw[k1];simp)]at hlog;rw[hlog];unfold eG;intros;refine gR 57 58 c82r7.eq_1 ?_;intros;refine gN ?_;exact eF ⟨A2,c2,LE.le hg1 hle2,eE,rfl⟩
  ·have k1:b=true:=by simpa using k1
   rw[if_pos k1]at hlog;rw[hlog];intros;refine gN ?_;exact eF ⟨A5,c5,hlg,eE,rfl⟩
 rintro e h ⟨A8,c8,hle8,e0,rfl⟩;refine dV [0] ?_;refine sJ @e0 ?_;have hz1:Cells (RE G1) 7 (l.set k { r with log:=(eT r lead).log }) (eo zs (k * 7+2) (eG (eT r lead).log A8 c8)) :=
  Cells.setF (E:=RE G1) (x':={ r with log:=(eT r lead).log }) (fa hz fun _ _ h=>RE.le hg1 h) hr (by simp[eG]) fun cs h hl=>by
   obtain⟨A6,c6,B6,d6,rfl,q1,q2,q3,q4⟩:=h;obtain⟨A9,c9,he9,h1,h2⟩:=hle8;unfold eG at he9;cases he9;exact⟨A8,c8,B6,d6,rfl,h1,q2,h2,q4⟩
 have hz2:Cells (RE G1) 7 (l.set k (eT r lead)) (eo (eo zs (k * 7+2) (eG (eT r lead).log A8 c8)) (k * 7+5) [.slice B2 lead.eps.length d2]):=by
  have:=Cells.setF (E:=RE G1) (o:=5) (us:=[.slice B2 lead.eps.length d2]) (x':=eT r lead) hz1 (iU hr) (by simp) fun cs h hl=>by
   obtain⟨A6,c6,B6,d6,rfl,q1,q2,q3,q4⟩:=h;exact⟨A6,c6,B2,d2,rfl,q1,p2.le hg1 KO,q3,q4⟩
  rwa [List.set_set]at this
 unfold eG at hz2 ⊢;intros;intros;refine dT ?_;refine qe _ (.cons_cons _ (.cons_cons _ KL)) (by decide) ?_;refine sJ c82r8.eq_1 ?_;refine fG [_,_] [] rfl (by simp;omega) ⟨rfl,rfl⟩ ?_;refine sI ?_;refine⟨⟨KO,.cons_cons _ (.cons_cons _ KL),rfl⟩,?_⟩;refine fG [_,_] [] rfl (by simp[eo];omega) ⟨rfl,rfl⟩ ?_;refine sI ?_
 exact gD ⟨[],rfl,⟨G1,[.row (.slice (some ⟨ga,0,none⟩) l.length d) 50 7 l.length _],[]⟩,dX (.cons _ (.cons _ KJ)),dW dS,rfl,_,rfl,hz2⟩
theorem F170:Fun Tryz.prog 170 6 v170 c170 o170:=Fun.mkA Tryz.func170 Tryz.ntmps170
theorem F137:Fun Tryz.prog 137 6 v137 c137 o137:=Fun.mkA Tryz.func137 Tryz.ntmps137
theorem F136:Fun Tryz.prog 136 17 v136 c136 o136:=Fun.mkA Tryz.func136 Tryz.ntmps136
theorem F83:Fun Tryz.prog 83 54 v83 c83 o83:=Fun.mkA Tryz.func83 Tryz.ntmps83
theorem AV(n:Int)(G:Ks):FnS Tryz.prog 170 #[.int .i64 n] G (.bool false):=by
 have hd:decide (n≠n)=false:=by simp
 refine F170.fnS (by simp) (dY ?_);unfold c170;intros;refine gR 0 0 c170r0.eq_1 ?_;intros;refine gR2 3 6 c170r1.eq_1 @hd ?_;intros;refine rV ?_;simp only[push_cast,Nat.reduceBEq]
theorem yw(n:Int)(G:Ks):FnS Tryz.prog 137 #[.int .i64 n] G (.bool false):=by
 have hd:decide (n≠n)=false:=by simp
 refine F137.fnS (by simp) (dY ?_);unfold c137;intros;refine gR 0 0 c137r0.eq_1 ?_;intros;refine gR2 3 6 c137r1.eq_1 @hd ?_;intros;refine rV ?_;simp only[push_cast,Nat.reduceBEq]
theorem Cg(a b:Int)(G:Ks):FnS Tryz.prog 136 #[.int .i64 a,.int .i64 b] G (.bool (decide (a < b))):=by
 refine F136.fnS (by simp) (dY ?_);unfold c136;intros;refine gR 0 0 c136r0.eq_1 ?_;intros;refine gR 5 17 c136r1.eq_1 ?_;refine fK (AV _ _ _ _) ?_;intros;refine rV ?_;simp only[push_cast,Nat.reduceBEq]
theorem rZ(l:KG)(n:Int)(v:Value)(G:Ks)(hl:SlV G IE 1 v l)(hs:l.Pairwise (· < ·)):
  FnE Tryz.prog 83 #[v,.int .i64 n] G (fun r=>∃ j:Nat,r=.tuple #[.int .i64 j,.bool (decide (n∈l))]∧j≤l.length∧∀ t y,l[t]?=some y→(t < j→y < n)∧(j≤t→n≤y)):=by
 obtain⟨A,c,rfl,hc,hmx,hA⟩:=hl;have hmono:∀ (i k:Nat) (x y:Int),i < k→l[i]?=some x→l[k]?=some y→x < y:=fun i k x y hik hx hy=>by
  obtain⟨g1,e1⟩:=List.getElem?_eq_some_iff.1 hx;obtain⟨g2,e2⟩:=List.getElem?_eq_some_iff.1 hy;rw[List.pairwise_iff_getElem]at hs;rw[← e1,← e2];exact hs i k g1 g2 hik
 refine F83.fnE (by simp) (dY ?_);unfold c83;intros;refine gR 0 0 c83r0.eq_1 ?_;intros;refine gR 10 12 c83r1.eq_1 ?_;intros;refine gR 12 13 c83r2.eq_1 ?_;intros;refine dT ?_
 refine ej (fun e h=>∃ i j:Nat,(i≤j∧j≤l.length)∧(∀ t y,l[t]?=some y→(t < i→y < n)∧(j≤t→n≤y))∧e 7=.int .i64 i∧e 8=.int .i64 j∧e 6=.int .i64 l.length∧e 0=.slice A l.length c∧e 1=.int .i64 n∧h=⟨G,[],[]⟩) (fun e h=>iv (e 8) - iv (e 7)) ?_ ?_
 ·exact⟨0,l.length,⟨by omega,by omega⟩,fun t y hy=>⟨fun h=>absurd h (by omega),fun h=>by have:=(List.getElem?_eq_some_iff.1 hy).1;omega⟩,eE,eE,eE,eE,eE,rfl⟩
 rintro e h ⟨i,j,⟨hij,hjn⟩,hat,e7,e8,e6,e0,e1,rfl⟩;refine dV [0,1,6,7,8] ?_;refine sJ5 @e0 @e1 @e6 @e7 @e8 ?_;intros;refine gR 13 15 c83r3.eq_1 ?_;intros;refine gC ?_;refine gb (fun ht=>?_) (fun ht=>?_)
 ·have hlt:i < j:=by simpa using ht
  unfold maxLen at hmx;obtain⟨m,hm1,hm2,hh,hv⟩:∃ m:Nat,i≤m∧m < j∧fq .shr (.int .u64 (IntKind.u64.wrap (IntKind.i64.wrap ((i:Int)+j)))) (.int .u64 1)=some (.int .u64 (m:Int))∧IntKind.i64.wrap (m:Int)=m :=
   ⟨(i+j) / 2,by omega,by omega,Hi i j (by omega),cvh i j (by omega)⟩
  obtain⟨x,hx⟩:∃ x,l[m]?=some x:=⟨l[m],getElem?_eq_getElem (by omega)⟩;intros;refine gN ?_;intros;refine gr 16 22 ?_;refine sJ3 c83r4.eq_1 @hh @hv ?_;intros;refine gR 22 27 c83r5.eq_1 ?_;refine hA.x_l1 hx rfl rfl ?_;rintro a1 ha1 u1 ⟨hu,-⟩;cases hu;refine sI ?_;refine fK (Cg x n _ _ _) ?_;intros;refine gC ?_;refine gbD (fun h3=>?_) (fun h3=>?_)
  ·have hw:IntKind.i64.wrap ((m:Int)+1)=(m:Int)+1:=by rw[ei] <;> omega
   intros;refine gR2 28 30 c83r6.eq_1 @hw ?_;intros;refine dT ?_;refine eF ⟨⟨m+1,j,⟨by omega,by omega⟩,fun t y hy=>⟨fun h=>?_,(hat t y hy).2⟩,(eJ @hw),eE,eE,eE,eE,rfl⟩,?_⟩
   ·by_cases htm:t=m
    ·subst htm;rw[hx]at hy;cases hy;exact h3
    ·have:=hmono t m y x (by omega) hy hx;omega
   refine sJ @hw ?_;omega
  ·intros;refine gR 30 31 c83r7.eq_1 ?_;intros;refine dT ?_;refine eF ⟨⟨i,m,⟨by omega,by omega⟩,fun t y hy=>⟨(hat t y hy).1,fun h=>?_⟩,eE,eE,eE,eE,eE,rfl⟩,?_⟩
   ·by_cases htm:t=m
    ·subst htm;rw[hx]at hy;cases hy;omega
    ·have:=hmono m t x y (by omega) hx hy;omega
   refine sI ?_;omega
 ·have hij':i=j:=by simp at ht;omega
  subst hij';have hmem:n∈l↔l[i]?=some n:=by
   constructor
   ·intro h;obtain⟨t,ht⟩:=List.getElem?_of_mem h;have:=hat t n ht;have h1:i≤t:=by
     by_cases h:t < i
     ·have:=this.1 h;omega
     ·omega
    by_cases hti:t=i
    ·rw[← hti];exact ht
    ·have hl:=(List.getElem?_eq_some_iff.1 ht).1;obtain⟨y,hy⟩:∃ y,l[i]?=some y:=⟨l[i],getElem?_eq_getElem (by omega)⟩;have h2:=(hat i y hy).2 (Nat.le_refl _);have h3:=hmono i t y n (by omega) hy ht;omega
   ·exact fun h=>mem_of_getElem? h
  refine eg ?_;refine sI ?_;intros;refine gR 31 54 c83r8.eq_1 ?_;refine gd (fun ht=>?_) (fun ht=>?_)
  ·have hlt:i < l.length:=by simpa using ht
   obtain⟨x,hx⟩:∃ x,l[i]?=some x:=⟨l[i],getElem?_eq_getElem (by omega)⟩;have hdm:decide (n∈l)=decide (x=n):=decide_eq_decide.2 (by rw[hmem,hx];simp);refine sI ?_;refine hA.x_l1 hx rfl rfl ?_;rintro a1 ha1 u1 ⟨hu,-⟩;cases hu;refine sI ?_;refine gd (fun k1=>?_) (fun k1=>?_)
   ·have k1':=KM k1;refine sI ?_;intros;refine rW ?_;exact⟨i,by rw[hdm,k1],hjn,hat⟩
   ·refine sI ?_;refine hA.x_l1 hx rfl rfl ?_;rintro a1 ha1 u1 ⟨hu,-⟩;cases hu;refine sI ?_;refine fK (yw _ _ _ _) ?_;intros;refine rW ?_;exact⟨i,by rw[hdm,k1],hjn,hat⟩
  ·have hlt:i=l.length:=by have:=KN ht;omega
   refine sI ?_;intros;refine rW ?_;have hnm:decide (n∈l)=false:=decide_eq_false (by rw[hmem,List.getElem?_eq_none (by omega)];simp);exact⟨i,by rw[hnm],hjn,hat⟩
theorem F33:Fun Tryz.prog 33 12 v33 c33 o33:=Fun.mkA Tryz.func33 Tryz.ntmps33
theorem F81:Fun Tryz.prog 81 104 v81 c81 o81:=Fun.mkA Tryz.func81 Tryz.ntmps81
def GR(P:Program)(f et:Nat):Prop :=
 ∀ (l:KG) (n:Int) (j:Nat) (A:Ky) (c b:Nat) (ys:Kt) (G:Ks),l.Pairwise (· < ·)→n∉l→(j≤l.length∧∀ t y,l[t]?=some y→(t < j→y < n)∧(j≤t→n≤y))→l.length≤1000→I64 n→Cells IE 1 l ys →
  FnO P f #[.slice A l.length c,.int .i64 j,.slice (some ⟨b,0,none⟩) 1 1] G [.row (.slice (some ⟨b,0,none⟩) 1 1) et 1 1 [.int .i64 n],.row (.slice A l.length c) et 1 l.length ys] (fun G' L' r=>∃ A' c' ys',r=.slice A' (lC l n).length c'∧Cells IE 1 (lC l n) ys'∧L'=[.row r et 1 (lC l n).length ys'])
theorem ry:∀ {l:KG} {n:Int},l.Pairwise (· < ·)→n∈l→lC l n=l
 | [],_,_,h=>by cases h
 | m :: l,n,hs,h=>by
  rw[lC];rcases List.mem_cons.1 h with rfl | h
  ·rw[if_neg (by omega),if_pos rfl]
  ·have h1:=(List.pairwise_cons.1 hs).1 n h;rw[if_pos h1,ry (List.pairwise_cons.1 hs).2 h]
theorem tj:∀ {l:KG} {n m:Int},m∈lC l n→m∈l∨m=n
 | [],n,m,h=>by simp[lC]at h;exact .inr h
 | x :: l,n,m,h=>by
  rw[lC]at h;split at h
  ·rcases List.mem_cons.1 h with rfl | h
   ·exact .inl (.head _)
   ·rcases tj h with h | h
    ·exact .inl (.tail _ h)
    ·exact .inr h
  ·split at h
   ·exact .inl h
   ·rcases List.mem_cons.1 h with rfl | h
    ·exact .inr rfl
    ·exact .inl h
theorem lJ{p:Pt}{j:Nat}{y:Rp}(h0:¬ p.leader < 0)(hj:atR p.reps p.leader=some j)(hy:p.reps[j]?=some y):eN p=hO p j { y with high:=max y.high (fT p.reps j y (fg y.log) p.isr) }:=by
 unfold eN;rw[if_neg h0,hj];dsimp only;rw[hy];rfl
theorem xd:∀ {l m:List Rp} (n:Int),gj l=gj m→atR l n=atR m n
 | [],[],_,_=>rfl
 | [],y :: m,_,h=>by cases h
 | x :: l,[],_,h=>by cases h
 | x :: l,y :: m,n,h=>by
  simp only[gj,List.map_cons,List.cons.injEq]at h;rw[atR,atR,h.1,xd n h.2]
theorem Bm(p:Pt)(x:Nat)(A:Ky)(c:Nat)(B:Ky)(d:Nat)(ys zs:Kt):
  (PtL p x A c B d ys zs).Perm ([Kx.Item.row (.slice B p.reps.length d) 50 7 p.reps.length zs]++[Kx.Item.blk x (eB p A c B d),Kx.Item.row (.slice A p.isr.length c) 3 1 p.isr.length ys]):=List.Perm.swap _ _ _
theorem CM(l:KG)(n:Int)(A:Ky)(c:Nat)(ys:Kt)(h:H)(L:Kv)(hL:h.L.Perm (.row (.slice A l.length c) 3 1 l.length ys :: L))(hy:Cells IE 1 l ys)(hs:l.Pairwise (· < ·)):
  eS Tryz.prog 83 #[.slice A l.length c,.int .i64 n] h fun r h'=>(∃ j:Nat,r=.tuple #[.int .i64 j,.bool (decide (n∈l))]∧j≤l.length∧∀ t y,l[t]?=some y→(t < j→y < n)∧(j≤t→n≤y))∧h'=h :=
 jn (L1:=[_]) (M:=fun G=>SlV G IE 1 (.slice A l.length c) l) (dW dS) F83.enters hL (jB (M1:=fun G=>SlV G IE 1 (.slice A l.length c) l) (fun L=>kA (by decide) hy) fun G' _ h=>ng h) fun G' hg hp=>rZ l n _ G' hp hs L h.D
theorem t7:∀ {bs:KE} {l:Lg},smL l.segs∧l.segs.length≤1000→smL (mC l bs).1.segs∧(mC l bs).1.segs.length≤1000
 | [],l,h=>h
 | b :: bs,l,h=>by
  rw[mC];split
  ·rename_i h0;have hc:=(mE h0).2.2.1;exact t7 ⟨na hc,by have:=(ib hc).2.2.2;omega⟩
  ·rename_i h0;rw[Cq h0];exact⟨fun s hs=>absurd hs (by simp[hH]),by simp[hH]⟩
theorem yi{r lead:Rp}(h1:smR r)(h2:smR lead):smR (eT r lead):=by
 have hc:∀ to,smL (ia r.log lead.log to).1.segs∧(ia r.log lead.log to).1.segs.length≤1000:=fun to=>by
  have ht:=wb (to:=to) h1.1 h1.2.1;unfold ia;dsimp only;split
  ·exact ht
  ·exact t7 ht
 have h3:smL (eT r lead).log.segs∧(eT r lead).log.segs.length≤1000:=by
  unfold eT;dsimp only;split
  ·exact hc _
  ·exact⟨h2.1,h2.2.1⟩
 exact⟨h3.1,h3.2,h2.2.2⟩
theorem AG(p:Pt)(n:Int)(b3 k:Nat)(r:Rp)(G:Ks)(hok:okP p)(hsm:smP p)(hI:ri p)(hn:I64 n)(h3:fB G ⟨b3,0,none⟩=some (.int .i64 n))(hk:atR p.reps n=some k)(hr:p.reps[k]?=some r)
  (hins:GR Tryz.prog 84 3∨n∈p.isr∨∀ j lead,atR p.reps p.leader=some j→p.reps[j]?=some lead→fg (eT r lead).log < lead.high) :
  ou G 81 #[.pointer (some ⟨b3,0,none⟩)] p k (nN n p k r):=by
 intro G1 x A c ga d ys zs hg hy hz;have h3:=em hg h3;rw[show(#[.pointer (some ⟨x,0,none⟩),.pointer (some ⟨ga,k * 7,none⟩)]++#[.pointer (some ⟨b3,0,none⟩)]:Array Value)=#[.pointer (some ⟨x,0,none⟩),.pointer (some ⟨ga,k * 7,none⟩),.pointer (some ⟨b3,0,none⟩)]from rfl];have hsr:=hsm.1 r (mem_of_getElem? hr);have hkl:=(List.getElem?_eq_some_iff.1 hr).1;have hrn:r.id=n:=by
  obtain⟨r',h1,h2⟩:=ij hk;rw[hr]at h1;cases h1;exact h2
 obtain⟨cs,hre,hcl,hld⟩:=hz.get hr;obtain⟨A1,c1,B1,d1,rfl,-⟩:=hre;refine F81.fnO (by simp) eU (dY ?_);unfold c81;have hno:p.leader < 0∨r.up=false→∀ (fr:KA) (e:Env) (h:H),go none Tryz.prog 104 v81.1 v81.2 (fI o81 fun v h=>AA (nN n p k r) x (· = []) h.G h.L v) (Td.s ((SC.reg false c81r2).seq .ret) :: fr) e h:=fun h fr e h=>by
  intros;refine gR 0 0 c81r2.eq_1 ?_;intros;refine ea (ee [] rfl KL dS ?_);rw[nN,if_pos ‹_›];exact m9 x _ (by decide)
 intros;refine gR 0 0 c81r0.eq_1 ?_;intros;refine gR 10 22 c81r1.eq_1 ?_;refine⟨_,dZ (cs:=eB p A c (some ⟨ga,0,none⟩) d) (.head _) rfl,?_⟩;refine sI ?_;refine gdD (fun k1=>?_) (fun k1=>?_)
 ·refine sI ?_;intros;refine gC ?_;exact hno (.inl k1) _ _ _
 refine sI ?_;refine⟨_,ff (.tail _ (.head _)) (hld 1 _ rfl),?_⟩;refine sI ?_;intros;refine gC ?_;refine gb (fun k2=>?_) (fun k2=>?_)
 ·have k2:r.up=false:=by simpa using k2
  exact hno (.inr k2) _ _ _
 have k2:r.up=true:=by simpa using k2
 have k12:¬ (p.leader < 0∨r.up=false):=fun h=>by rcases h with h | h;exact k1 h;rw[k2]at h;cases h
 clear hno;intros;refine gN ?_;intros;refine dT ?_;refine qB 23 29 (by decide) ?_;refine sJ c81r3.eq_1 ?_;refine⟨_,⟨_,rfl,.g h3⟩,?_⟩;refine sI ?_;refine⟨_,dZ (cs:=eB p A c (some ⟨ga,0,none⟩) d) (.head _) rfl,?_⟩;refine sI ?_;intros;refine gC ?_;refine gbD (fun k3=>?_) (fun k3=>?_)
 ·intros;refine gR 0 0 c81r4.eq_1 ?_;intros;refine ea (ee _ rfl KJ eU ?_);rw[nN,if_neg k12,if_pos k3];exact vd hy hz hI
 obtain⟨j,lead,hj,hl,hli⟩:=mM hok k1;have hjl:=(List.getElem?_eq_some_iff.1 hl).1;have hjk:j≠k:=fun h=>by
  subst h;rw[hr]at hl;cases hl;exact k3 (by rw[← hrn,hli])
 have hpt:uN (some ⟨ga,0,none⟩) (some j)=some ⟨ga,j * 7,none⟩:=congrArg some (gB _ _);intros;refine gN ?_;intros;refine gR 30 37 c81r5.eq_1 ?_;refine⟨_,dZ (cs:=eB p A c (some ⟨ga,0,none⟩) d) (.head _) rfl,?_⟩;refine sI ?_;refine(qh p x A c (some ⟨ga,0,none⟩) d ys zs p.leader _ [] (by simp) hy hz hI.2.1 (fO hok)).mono ?_;rintro _ _ ⟨rfl,rfl⟩;rw[hj,hpt];refine sI ?_
 have hsl:=hsm.1 lead (mem_of_getElem? hl);obtain⟨cs,hle,hcl2,hld2⟩:=hz.get hl;have hfo:=xx p.reps k r lead ga d zs cs G1 hz hr hle hsr hsl;obtain⟨A2,c2,B2,d2,rfl,-⟩:=hle;unfold fk at hfo;intros;refine gR 37 42 c81r6.eq_1 ?_;refine⟨_,gJ (.tail _ (.head _)) hcl2 hld2,?_⟩;unfold fk;refine sI ?_
 refine eS.ghost (h':=⟨G1,[.row (.slice (some ⟨ga,0,none⟩) p.reps.length d) 50 7 p.reps.length zs]++[.blk x (eB p A c (some ⟨ga,0,none⟩) d),.row (.slice A p.isr.length c) 3 1 p.isr.length ys],[]⟩) (eO (Bm p x A c (some ⟨ga,0,none⟩) d ys zs)) ?_;refine(hfo _ _).mono ?_;rintro v h' ⟨G2,L',rfl,hg2,rfl,zs1,rfl,hz1⟩;refine sI ?_;intros
 refine dU (h':=⟨G2,PtL p x A c (some ⟨ga,0,none⟩) d ys zs1,[]⟩) (eO (Bm p x A c (some ⟨ga,0,none⟩) d ys zs1).symm) ?_;have hsf:=yi hsr hsl;have hrf:=iU (y:=eT r lead) hr;have hlf:(p.reps.set k (eT r lead))[j]?=some lead:=by rw[List.getElem?_set_ne (Ne.symm hjk)];exact hl
 have hpf:nN n p k r=(hO (eN { p with isr:=if lead.high≤fg (eT r lead).log then lC p.isr n else p.isr,reps:=p.reps.set k { eT r lead with high:=min r.high (fg (eT r lead).log) } }) k
   { eT r lead with high:=min (max (min r.high (fg (eT r lead).log)) ((eN { p with isr:=if lead.high≤fg (eT r lead).log then lC p.isr n else p.isr,reps:=p.reps.set k { eT r lead with high:=min r.high (fg (eT r lead).log) } }).reps[j]?.getD lead).high) (fg (eT r lead).log) },0):=by
  unfold nN;rw[if_neg k12,if_neg k3,hj];dsimp only;rw[hl]
 have hfh:(eT r lead).high=r.high∧(eT r lead).id=r.id:=⟨rfl,rfl⟩;have hins:GR Tryz.prog 84 3∨n∈p.isr∨fg (eT r lead).log < lead.high:=by
  rcases hins with h | h | h
  ·exact .inl h
  ·exact .inr (.inl h)
  ·exact .inr (.inr (h j lead hj hl))
 rw[hpf];clear hpf hfo;generalize eT r lead=fr at *;obtain⟨cs,hre,hcl,hld⟩:=hz1.get hrf;have hend:=iB fr cs G2 hre hsf.1 (by have:=hsf.2.1;omega);have hei:=kw fr.log;obtain⟨A1,c1,B1,d1,rfl,-,-,-,-,hfi⟩:=hre;unfold fk at hend;intros;refine gR 42 46 c81r7.eq_1 ?_;refine⟨_,gJ (.tail _ (.head _)) hcl hld,?_⟩;unfold fk;refine sI ?_;refine fK (hend _ _) ?_;generalize fg fr.log=last at *
 have hz2:Cells (RE G2) 7 (p.reps.set k { fr with high:=min r.high last }) (eo zs1 (k * 7+6) [.int .i64 (min fr.high last)]):=by
  have:=Cells.setF (E:=RE G2) (o:=6) (us:=[.int .i64 (min fr.high last)]) (x':={ fr with high:=min r.high last }) hz1 hrf (by simp) fun cs h hl=>by
   obtain⟨A5,c5,B5,d5,rfl,q1,q2,q3,q4,q5⟩:=h;refine⟨A5,c5,B5,d5,?_,q1,q2,q3,q4,by unfold I64 at q5 ⊢;rw[hfh.1]at q5;show _≤min r.high last∧min r.high last≤_;omega⟩;rw[hfh.1];rfl
  rwa [List.set_set]at this
 have hzl1:=hz1.len;rw[List.length_set]at hzl1;intros;refine gR 46 55 c81r8.eq_1 ?_;refine⟨_,ff (.tail _ (.head _)) (hld 6 _ rfl),?_⟩;refine sI ?_;refine fG [_] _ rfl (by simp;omega) ⟨rfl,rfl⟩ ?_;refine sI ?_;generalize eo zs1 (k * 7+6) [.int .i64 (min fr.high last)]=zs2 at *;have hrj:(p.reps.set k { fr with high:=min r.high last })[j]?=some lead:=by rw[List.getElem?_set_ne (Ne.symm hjk)];exact hl
 obtain⟨cs,hre2,hcl2',hld2'⟩:=hz2.get hrj;obtain⟨A3,c3,B3,d3,rfl,-⟩:=hre2;have hs:=hok.2.1.1.2.2;generalize hiq:(if lead.high≤last then lC p.isr n else p.isr)=isr' at *;intros;try refine ed ?_
 refine eL (fun e h=>∃ (G3:Ks) (A3:Ky) (c3:Nat) (ys3:Kt) (Lh:Kv),(Gle G2 G3∧Cells IE 1 isr' ys3)∧e 0=.pointer (some ⟨x,0,none⟩)∧e 1=.pointer (some ⟨ga,k * 7,none⟩)∧e 6=.pointer (some ⟨ga,j * 7,none⟩)∧e 7=.int .i64 last∧h=⟨G3,Lh,[]⟩∧Lh.Perm (PtL { p with isr:=isr' } x A3 c3 (some ⟨ga,0,none⟩) d ys3 zs2)) ?_ ?_
 ·intros;try refine ed ?_
  intros;refine dT ?_;refine lk _ KJ (by decide) ?_;refine sJ c81r9.eq_1 ?_;refine⟨_,dZ (cs:=eB p A c (some ⟨ga,0,none⟩) d) (.head _) rfl,?_⟩;refine sI ?_;refine⟨_,⟨_,rfl,.g (em hg2 h3)⟩,?_⟩;refine sI ?_;refine(CM p.isr n A c ys _ _ (List.perm_append_comm (l₁:=[_,_]) (l₂:=[_])) hy hs).mono ?_;rintro _ _ ⟨⟨jj,rfl,hjj,hat⟩,rfl⟩;refine sI ?_;intros;refine gR 65 74 c81r10.eq_1 ?_
  refine⟨_,ff (.tail _ (.head _)) (hld2' 6 _ rfl),?_⟩;refine sI ?_;have hd:decide (last≥lead.high)=decide (lead.high≤last):=rfl;refine gd (fun k4=>?_) (fun k4=>?_)
  ·have k4:lead.high≤last:=KM k4;rw[if_pos k4]at hiq;refine sI ?_;intros;refine gC ?_;refine gb (fun k5=>?_) (fun k5=>?_)
   ·have k5:n∉p.isr:=by simpa using k5
    have hI:GR Tryz.prog 84 3:=by
     rcases hins with h | h | h
     ·exact h
     ·exact absurd h k5
     ·omega
    intros;refine dT ?_;refine Aq _ (.cons_cons _ (.cons_cons _ KL)) (by decide) ?_;refine sJ c81r11.eq_1 ?_;refine⟨_,dZ (cs:=eB p A c (some ⟨ga,0,none⟩) d) (.head _) rfl,?_⟩;refine sI ?_;refine⟨_,⟨_,rfl,.g (em hg2 h3)⟩,?_⟩;refine sI ?_;intro bv hbv;refine⟨ef KO (.cons _ (.cons_cons _ (.cons_cons _ KL))),?_⟩
    refine eS.ghost (h':=⟨G2,[.row (.slice (some ⟨bv,0,none⟩) 1 1) 3 1 1 [.int .i64 n],.row (.slice A p.isr.length c) 3 1 p.isr.length ys]++[.blk x (eB p A c (some ⟨ga,0,none⟩) d),.row (.slice (some ⟨ga,0,none⟩) p.reps.length d) 50 7 p.reps.length zs2],[]⟩) (eO (.cons _ (List.perm_append_comm (l₁:=[_,_]) (l₂:=[_])))) ?_
    refine((hI p.isr n jj A c bv ys G2 hs k5 ⟨hjj,hat⟩ (by have:=hsm.2.2;omega) hn hy) _ _).mono ?_;rintro r' h' ⟨G3,L',rfl,hg3,A4,c4,ys4,rfl,hy4,rfl⟩;rw[hiq]at hy4 ⊢;refine⟨ef hg3 (.cons _ (.cons_cons _ (.cons_cons _ KL))),?_⟩;refine sJ c81r12.eq_1 ?_;refine ek [_] _ rfl (by simp[eB]) ⟨rfl,rfl⟩ ?_;refine sI ?_
    exact eF ⟨G3,A4,c4,ys4,_,⟨hg3,hy4⟩,eE,eE,eE,eE,rfl,List.perm_append_comm (l₁:=[_]) (l₂:=[_,_])⟩
   ·have k5:n∈p.isr:=by simpa using k5
    rw[ry hs k5]at hiq;subst hiq;intros;refine gN ?_;exact eF ⟨G2,A,c,ys,_,⟨.refl _,hy⟩,eE,eE,eE,eE,rfl,List.Perm.refl _⟩
  ·have k4:¬ lead.high≤last:=KN k4;rw[if_neg k4]at hiq;subst hiq;refine sI ?_;intros;refine gC ?_;intros;refine gN ?_;exact eF ⟨G2,A,c,ys,_,⟨.refl _,hy⟩,eE,eE,eE,eE,rfl,List.Perm.refl _⟩
 rintro e h ⟨G3,A3,c3,ys3,Lh,⟨hg3,hy3⟩,e0,e1,e6,e7,rfl,hperm⟩;refine dV [0,1,6,7] ?_;refine sJ4 @e0 @e1 @e6 @e7 ?_;intros;refine dU (eO hperm) ?_;have hid1:gj (p.reps.set k { fr with high:=min r.high last })=gj p.reps:=nB hr hfh.2;have hz3:=fa hz2 fun _ _ h=>RE.le hg3 h
 have hraise:=kI (hO { p with isr:=isr' } k { fr with high:=min r.high last }) x A3 c3 (some ⟨ga,0,none⟩) d ys3 zs2 G3 hy3 hz3 (l4 hr hfh.2 (fO (p:=p) hok))
  (fun m hm=>by
   show m∈gj (p.reps.set k _)
   rw[hid1]
   have hm:m∈isr':=hm
   rw[← hiq]at hm
   split at hm
   ·rcases tj hm with h | rfl
    ·exact hok.2.1.2 m h
    ·exact List.mem_map.2 ⟨r,mem_of_getElem? hr,hrn⟩
   ·exact hok.2.1.2 m hm)
  (mP <| sy hsm.1 hsf) hI
 rw[oo]at hraise;have hR:=lJ (p:=hO { p with isr:=isr' } k { fr with high:=min r.high last }) k1 ((xd (m:=p.reps) _ hid1).trans hj) hrj;have hRs:=gW (hO { p with isr:=isr' } k { fr with high:=min r.high last });have hRi:=kV (p:=hO { p with isr:=isr' } k { fr with high:=min r.high last }) hI;generalize fT _ _ _ _ _=lf at hR
 have hj2:(eN (hO { p with isr:=isr' } k { fr with high:=min r.high last })).reps[j]?=some { lead with high:=max lead.high lf }:=by
  rw[hR];exact iU hrj
 have hk2:(eN (hO { p with isr:=isr' } k { fr with high:=min r.high last })).reps[k]?=some { fr with high:=min r.high last }:=by
  rw[hR];show((p.reps.set k _).set j _)[k]?=_;rw[List.getElem?_set_ne hjk];exact iU hr
 change go _ _ _ _ _ (fI _ fun v h=>AA (hO (eN (hO { p with isr:=isr' } k { fr with high:=min r.high last })) k { fr with high:=min (max (min r.high last) (((eN (hO { p with isr:=isr' } k { fr with high:=min r.high last })).reps[j]?).getD lead).high) last },0) x (· = []) h.G h.L v) _ _ _;rw[hj2,Option.getD_some]
 have hyr:Cells IE 1 (eN (hO { p with isr:=isr' } k { fr with high:=min r.high last })).isr ys3:=by rw[hRs.2.2.2.1];exact hy3
 intros;refine gR 88 90 c81r13.eq_1 ?_;rw[← append_nil (PtL { p with isr:=isr' } x A3 c3 (some ⟨ga,0,none⟩) d ys3 zs2)];refine(hraise _ _).mono ?_;rintro r' h' ⟨G4,L',rfl,hg4,rfl,zs',rfl,hz'⟩;rw[append_nil];clear hR hRs hraise;generalize eN (hO { p with isr:=isr' } k { fr with high:=min r.high last })=p2 at *;obtain⟨cs,hre,-,hldk⟩:=hz'.get hk2;obtain⟨A8,c8,B8,d8,rfl,-⟩:=hre
 obtain⟨cs,hre,-,hldj⟩:=hz'.get hj2;obtain⟨A9,c9,B9,d9,rfl,-⟩:=hre;have hzl4:=hz'.len;have hkl2:=(List.getElem?_eq_some_iff.1 hk2).1;refine sI ?_;intros;refine dT ?_;refine EP (by decide) ?_;refine sJ c81r14.eq_1 ?_;refine⟨_,ff (.tail _ (.head _)) (hldk 6 _ rfl),?_⟩;refine sI ?_;refine⟨_,ff (.tail _ (.head _)) (hldj 6 _ rfl),?_⟩;refine sJ c81r15.eq_1 ?_
 refine fG [_] _ rfl (by simp;omega) ⟨rfl,rfl⟩ ?_;have hz5:Cells (RE G4) 7 (p2.reps.set k { fr with high:=min (max (min r.high last) (max lead.high lf)) last }) (eo zs' (k * 7+6) [.int .i64 (min (max (min r.high last) (max lead.high lf)) last)]) :=
  Cells.setF (E:=RE G4) (o:=6) (us:=[.int .i64 (min (max (min r.high last) (max lead.high lf)) last)]) (x':={ fr with high:=min (max (min r.high last) (max lead.high lf)) last }) hz' hk2 (by simp) fun cs h hl=>by
   obtain⟨A5,c5,B5,d5,rfl,q1,q2,q3,q4,q5⟩:=h;have q5:I64 (min r.high last):=q5;exact⟨A5,c5,B5,d5,rfl,q1,q2,q3,q4,by unfold I64 at q5 ⊢;show _≤min _ last∧min _ last≤_;omega⟩
 refine sI ?_;intros;refine gR 0 0 c81r16.eq_1 ?_;intros;exact ea (ee _ rfl KJ eU (xm hyr hz5 hRi))
theorem Db(p:Pt)(cs:Kt)(n:Int)(G:Ks)(hp:PE G p cs)(hsm:smP p)(hn:I64 n)
  (hins:GR Tryz.prog 84 3∨n∈p.isr∨∀ k r j lead,atR p.reps n=some k→p.reps[k]?=some r→atR p.reps p.leader=some j→p.reps[j]?=some lead→fg (eT r lead).log < lead.high) :
  FnD Tryz.prog 33 #[.agg cs.toArray,.int .i64 n] G (PtR (ofP p n (nN n))):=by
 have hp0:=hp;obtain⟨A,c,B,d,rfl,-,-,hI⟩:=hp;refine F33.fnD (by simp) (dY ?_);unfold c33;unfold eB at hp0 ⊢;intros;refine gR 0 0 c33r0.eq_1 ?_;intro b3 hb3;refine sI ?_;intros;refine eI (eP [_] _) ?_;rintro h' ⟨G1,rfl,hg1,f3⟩;have f3:=f3 0 _ rfl;rw[eV]at f3
 have hof:=wj p _ n 81 #[.pointer (some ⟨b3,0,none⟩)] (nN n p) G1 (hp0.le hg1) hsm hn fun hok k r hk hr=>AG p n b3 k r G1 hok hsm hI hn f3 hk hr (by
  rcases hins with h | h | h
  ·exact .inl h
  ·exact .inr (.inl h)
  ·exact .inr (.inr fun j lead=>h k r j lead hk hr))
 rw[← jc]at hof;intros;refine gR 6 12 c33r1.eq_1 ?_;refine⟨_,⟨_,rfl,.g f3⟩,?_⟩;refine sI ?_;refine(hof _ _).mono ?_;rintro r h' ⟨G2,rfl,hg2,cs2,rfl,hpe⟩;have hpe0:=hpe;obtain⟨A2,c2,B2,d2,rfl,-⟩:=hpe;unfold eB at hpe0 ⊢;refine sI ?_;intros;refine rW ?_;exact⟨_,rfl,hpe0⟩
def exB:Batch:=⟨0,1,0,0,-1,0,0,false,0,[⟨0,⟨#[]⟩,⟨#[118]⟩,false,0⟩,⟨1,⟨#[]⟩,⟨#[119]⟩,false,0⟩]⟩
def vj:Batch:={ exB with epoch:=1 }
theorem xC:fM exB=0:=by decide +kernel
theorem pB:fM vj=0:=by decide +kernel
theorem Af:(eu vj).length≤4096:=by have:=(ir pB).2;omega
theorem Dx:fU exB 0=(exB,0):=by
 have h:vf exB 0=exB:=by decide +kernel
 rw[fU,if_pos (by decide),if_pos xC,h,if_pos xC]
def qg:Lg:=⟨4096,0,[⟨0,[]⟩]⟩
def mO:Lg:=⟨4096,0,[⟨0,eu vj⟩]⟩
theorem Bn:lz 4096 0=true:=by decide
theorem F7:x8 4096 0=(qg,0):=by rw[x8,if_pos Bn];rfl
theorem uP:fS qg=0:=DT Bn
theorem BU:fg qg=0:=by rw[fg,if_pos uP];rfl
theorem mV:j6 qg vj=(mO,0):=by
 have h1:wL qg=⟨0,[]⟩:=rfl;have hl:=Af;have h2:jM ⟨0,[]⟩ vj 4096=(⟨0,eu vj⟩,0):=by
  have h3:=Bs (s:=⟨0,[]⟩) (b:=vj) (limit:=4096) (gt.2 ⟨rfl,by decide⟩) (by decide) pB (by decide);rw[h3,if_neg (by simp;omega)];simp
 have hlm:qg.limit=4096:=rfl;rw[j6,if_pos uP,if_pos pB,if_neg (by decide),if_neg (by rw[hlm];omega),h1,hlm,h2,if_pos rfl];rfl
theorem pr:fS mO=0:=by
 obtain⟨-,-,h,-⟩:=mE (l:=qg) (b:=vj) (by rw[mV])
 rwa [mV]at h
theorem qd:fg mO=2:=by
 obtain⟨-,-,-,h,-⟩:=mE (l:=qg) (b:=vj) (by rw[mV]);rw[mV]at h;rw[fg,if_pos pr];exact h
theorem IG:nj qg=[]:=by rw[nj,if_pos uP];rfl
theorem I3:nj mO=[vj]:=by
 have:=AU (l:=qg) (b:=vj) (by rw[mV]);rw[mV]at this;rw[nj,if_pos pr];exact this
theorem FO:sR qg 0=(qg,0):=by
 have h1:AM qg 0=true:=by decide
 rw[sR,if_pos uP,if_pos h1];rfl
theorem Ea:m1 mO 0=mO:=by
 have h:∀ s:Sg,pV s 0=s:=fun s=>by
  unfold pV;rw[show(min (0:Int) s.bytes.length).toNat=0 by omega,Nat.sub_zero,take_length]
 unfold m1;rw[h];rfl
def exR(n:Int)(up:Bool)(l:Lg)(e:List Ep)(h:Int):Rp:=⟨n,up,l,e,h⟩
def exE:List Ep:=[(1,0)]
theorem vw:gP exE=0:=by
 unfold gP;rw[if_pos];intro i x hi hx
 match i,hi,hx with
 | 0,_,hx=>cases hx;exact⟨by decide,fun p h=>absurd h (by omega)⟩
theorem F1:gP ([]:List Ep)=0:=by
 unfold gP;rw[if_pos];intro i x hi;simp at hi
theorem ER:mY [] 1 0=(exE,0):=by
 rw[xE F1 (by decide)];rfl
theorem Fg:m6 exE 2=exE:=by
 unfold m6;rw[vw];rfl
theorem Hb(b:List Ep)(ae be:Int):mN [] b ae be=0:=by
 unfold mN;split
 ·rename_i h;exact xS (Classical.choose_spec h) (.inr (.inr (.inl rfl)))
 ·rfl
theorem Je:mN exE exE 2 2=2:=by
 refine pf (.inr ⟨vw,vw,.inr ⟨0,(1,0),0,(1,0),rfl,rfl,rfl,fun i' x' k' y' hi hx=>?_,rfl⟩⟩);have:=(List.getElem?_eq_some_iff.1 hx).1;simp[exE]at this;omega
def ju(n:Int):Rp:=exR n true qg [] 0
def fZ(n h:Int):Rp:=exR n true mO exE h
def exD:Rp:=exR 0 false mO exE 2
theorem oy{n:Int}(h:idI n=true):okR (ju n):=⟨⟨h,F1,by show(0:Int)≤0;decide,by show(0:Int)≤_;decide⟩,uP,fun _=>by show(0:Int)≤fg qg;rw[BU];decide⟩
theorem pL{n m:Int}(h:idI n=true)(h1:0≤m)(h2:m≤2):okR (fZ n m):=⟨⟨h,vw,h1,by show m≤_;omega⟩,pr,fun _=>by show m≤fg mO;rw[qd];exact h2⟩
theorem JG:okR exD:=⟨⟨by decide,vw,by decide,by decide⟩,by show fS (iQ mO).1=0;rw[yz pr];exact pr,fun h=>by cases h⟩
def exP(ep ld:Int)(is:KG)(a b c:Rp):Pt:=⟨ep,ld,1,is,[a,b,c]⟩
theorem Ck{ep ld:Int}{is:KG}{a b c:Rp}(h1:idI ep=true)(h2:gj [a,b,c]=[0,1,2])(h3:okR a∧okR b∧okR c)(h4:gE is∧∀ n∈is,n∈([0,1,2]:KG))(h5:ld=-1∨(∃ r∈[a,b,c],r.id=ld∧r.up=true)∧ld∈is):fA (exP ep ld is a b c)=0:=by
 refine lD ⟨⟨h1,?_,by show[a,b,c].length≤5;simp,⟨by show(1:Int)≤1;omega,by show(1:Int)≤(([a,b,c].length:Nat):Int);simp⟩,fun r hr=>?_⟩,⟨h4.1,fun n hn=>?_⟩,h5⟩
 ·show gE (gj [a,b,c]);rw[h2];refine⟨by simp,fun n hn=>?_,by decide⟩;simp at hn;rcases hn with rfl | rfl | rfl <;> decide
 ·have hr:r∈[a,b,c]:=hr;simp at hr;rcases hr with rfl | rfl | rfl
  ·exact h3.1
  ·exact h3.2.1
  ·exact h3.2.2
 ·show n∈gj [a,b,c];rw[h2];exact h4.2 n hn
theorem GS:gE [0,1,2]∧∀ n∈([0,1,2]:KG),n∈([0,1,2]:KG):=⟨⟨by simp,by decide,by decide⟩,fun n h=>h⟩
theorem r01:gE [0,1]∧∀ n∈([0,1]:KG),n∈([0,1,2]:KG):=⟨⟨by simp,by decide,by decide⟩,by decide⟩
theorem r1:gE [1]∧∀ n∈([1]:KG),n∈([0,1,2]:KG):=⟨⟨by simp,by decide,by decide⟩,by decide⟩
def Bk:Pt:=exP 1 0 [0,1,2] (ju 0) (ju 1) (ju 2)
def qS:Pt:=exP 1 0 [0,1,2] (fZ 0 0) (ju 1) (ju 2)
def vn:Pt:=exP 1 0 [0,1,2] (fZ 0 0) (fZ 1 0) (ju 2)
def vl:Pt:=exP 1 0 [0,1] (fZ 0 2) (fZ 1 0) (ju 2)
def oN:Pt:=exP 1 (-1) [1] exD (fZ 1 0) (ju 2)
def tp:Pt:=exP 2 1 [1] exD (fZ 1 2) (ju 2)
def Ap:Pt:=exP 2 1 [1] (fZ 0 2) (fZ 1 2) (ju 2)
theorem H8:fA Bk=0:=Ck (by decide) rfl ⟨oy (by decide),oy (by decide),oy (by decide)⟩ GS (.inr ⟨⟨ju 0,.head _,rfl,rfl⟩,.head _⟩)
theorem FE:fA qS=0:=Ck (by decide) rfl ⟨pL (by decide) (by decide) (by decide),oy (by decide),oy (by decide)⟩ GS (.inr ⟨⟨fZ 0 0,.head _,rfl,rfl⟩,.head _⟩)
theorem Fz:fA vn=0:=Ck (by decide) rfl ⟨pL (by decide) (by decide) (by decide),pL (by decide) (by decide) (by decide),oy (by decide)⟩ GS (.inr ⟨⟨fZ 0 0,.head _,rfl,rfl⟩,.head _⟩)
theorem GH:fA vl=0:=Ck (by decide) rfl ⟨pL (by decide) (by decide) (by decide),pL (by decide) (by decide) (by decide),oy (by decide)⟩ r01 (.inr ⟨⟨fZ 0 2,.head _,rfl,rfl⟩,.head _⟩)
theorem Cm:fA oN=0:=Ck (by decide) rfl ⟨JG,pL (by decide) (by decide) (by decide),oy (by decide)⟩ r1 (.inl rfl)
theorem BS:fA tp=0:=Ck (by decide) rfl ⟨JG,pL (by decide) (by decide) (by decide),oy (by decide)⟩ r1 (.inr ⟨⟨fZ 1 2,.tail _ (.head _),rfl,rfl⟩,.head _⟩)
theorem GC:fA Ap=0:=Ck (by decide) rfl ⟨pL (by decide) (by decide) (by decide),pL (by decide) (by decide) (by decide),oy (by decide)⟩ r1 (.inr ⟨⟨fZ 1 2,.tail _ (.head _),rfl,rfl⟩,.head _⟩)
theorem CZ:BL [0,1,2] 4096 1=(Bk,0):=by
 unfold BL;rw[F7,if_pos ⟨rfl,GS.1,by decide,by decide,by decide⟩];rfl
theorem CA:fA jZ=1:=jk fun h=>h.1.2.1.1 rfl
theorem GP(n m h:Int):kh (ju n) (fZ m h)=0:=Hb _ _ _
theorem JI(n m h h':Int):kh (fZ n h) (fZ m h')=2:=by
 show mN exE exE (fg mO) (fg mO)=2;rw[qd];exact Je
theorem pY{l:List Rp}{k:Nat}{r:Rp}{m n:Int}(h:atR l n=some k):my l k r m n=m:=by
 unfold my;rw[h];dsimp only;rw[if_pos rfl]
theorem og{l:List Rp}{k i:Nat}{r x:Rp}{m n:Int}(h:atR l n=some i)(hik:i≠k)(hx:l[i]?=some x):my l k r m n=min m (kh x r):=by
 unfold my;rw[h];dsimp only;rw[if_neg hik,hx]
theorem lc{p q:Pt}(h:fA p=0):mc p (q,0)=(q,0):=by rw[mc,if_pos h];rfl
theorem jz{p q:Pt}{e:Int}(h:fA p=0)(he:e≠0):mc p (q,e)=(jZ,e):=by rw[mc,if_pos h,if_neg he]
theorem v9(p:Pt)(b:Batch):EF p b=if (mc p (lG b p).1).2=0 then(mc p (lG b p).1,(lG b p).2)else((jZ,(mc p (lG b p).1).2),0):=rfl
theorem DH{p:Pt}{b mb:Batch}{k:Nat}{r:Rp}{en:Int}{al:Lg}{pl:List Ep}(k1:¬ p.leader < 0)(k2:¬ (p.isr.length:Int) < p.least)(hk:atR p.reps p.leader=some k)(hr:p.reps[k]?=some r)(he:fg r.log=en)
  (hm:fU b en=(mb,0)) (ha:j6 r.log { mb with epoch:=p.epoch }=(al,0)) (hp:mY r.eps p.epoch mb.base=(pl,0)):lG b p=((eN (hO p k { r with log:=al,eps:=pl }),0),mb.base):=by
 unfold lG;rw[if_neg k1,if_neg k2,hk];dsimp only;rw[hr];dsimp only;rw[he,hm];dsimp only;rw[if_neg (fun h=>h rfl),ha];dsimp only;rw[if_neg (fun h=>h rfl),hp];dsimp only;rw[if_neg (fun h=>h rfl)]
theorem Jh:eN (exP 1 0 [0,1,2] (fZ 0 0) (ju 1) (ju 2))=qS:=by
 rw[lJ (j:=0) (y:=fZ 0 0) (by decide) rfl rfl];have:fT [fZ 0 0,ju 1,ju 2] 0 (fZ 0 0) 2 [0,1,2]=0:=by
  unfold fT;simp only[List.foldl_cons,List.foldl_nil];rw[pY (n:=0) rfl,og (n:=1) (i:=1) rfl (by decide) rfl,og (n:=2) (i:=2) rfl (by decide) rfl,GP,GP];rfl
 show hO _ 0 { fZ 0 0 with high:=max 0 (fT [fZ 0 0,ju 1,ju 2] 0 (fZ 0 0) (fg mO) [0,1,2]) }=_;rw[qd,this];rfl
theorem CS:EF Bk exB=((qS,0),0):=by
 have hF:lG exB Bk=((qS,0),0):=by
  rw[DH (p:=Bk) (b:=exB) (k:=0) (r:=ju 0) (en:=0) (mb:=exB) (al:=mO) (pl:=exE) (by decide) (by decide) rfl rfl BU Dx mV ER];show((eN (exP 1 0 [0,1,2] (fZ 0 0) (ju 1) (ju 2)),(0:Int)),(0:Int))=_;rw[Jh]
 rw[v9,hF];dsimp only;rw[lc H8,if_pos rfl]
theorem GL:eT (ju 1) (fZ 0 0)=fZ 1 0:=by
 have hc:ia qg mO 0=(mO,true):=by
  unfold ia;dsimp only;rw[FO];dsimp only;rw[IG,I3,if_neg (by simp)];show mC qg [vj]=_;rw[mC,mV,if_pos rfl];rfl
 unfold eT;rw[GP];dsimp only;have h0:min 0 (fg (ju 1).log)=0:=by show min 0 (fg qg)=0;rw[BU];rfl
 have h1:ia (ju 1).log (fZ 0 0).log 0=(mO,true):=hc;rw[h0,h1,if_pos ⟨rfl,by decide,rfl⟩];rfl
theorem IS:eN (exP 1 0 [0,1,2] (fZ 0 0) (fZ 1 0) (ju 2))=vn:=by
 rw[lJ (j:=0) (y:=fZ 0 0) (by decide) rfl rfl];have:fT [fZ 0 0,fZ 1 0,ju 2] 0 (fZ 0 0) 2 [0,1,2]=0:=by
  unfold fT;simp only[List.foldl_cons,List.foldl_nil];rw[pY (n:=0) rfl,og (n:=1) (i:=1) rfl (by decide) rfl,og (n:=2) (i:=2) rfl (by decide) rfl,JI,GP];rfl
 show hO _ 0 { fZ 0 0 with high:=max 0 (fT [fZ 0 0,fZ 1 0,ju 2] 0 (fZ 0 0) (fg mO) [0,1,2]) }=_;rw[qd,this];rfl
theorem DJ:ofP qS 1 (nN 1)=(vn,0):=by
 rw[jc,mD (k:=1) (r:=ju 1) _ rfl rfl];have hF:nN 1 qS 1 (ju 1)=(vn,0):=by
  unfold nN;rw[if_neg (by decide),if_neg (by decide),show atR qS.reps qS.leader=some 0 from rfl];dsimp only;rw[show qS.reps[0]?=some (fZ 0 0)from rfl];dsimp only;rw[GL,show fg (fZ 1 0).log=2 from qd,if_pos (by decide),show lC qS.isr 1=[0,1,2]from rfl]
  show(hO (eN (exP 1 0 [0,1,2] (fZ 0 0) (fZ 1 (min 0 2)) (ju 2))) 1 { fZ 1 0 with high:=min (max (min 0 2) ((eN (exP 1 0 [0,1,2] (fZ 0 0) (fZ 1 (min 0 2)) (ju 2))).reps[0]?.getD (fZ 0 0)).high) 2 },(0:Int))=_;rw[show min (0:Int) 2=0 from rfl,IS];rfl
 rw[hF,lc FE]
theorem Jc:eN (exP 1 0 [0,1] (fZ 0 0) (fZ 1 0) (ju 2))=vl:=by
 rw[lJ (j:=0) (y:=fZ 0 0) (by decide) rfl rfl];have:fT [fZ 0 0,fZ 1 0,ju 2] 0 (fZ 0 0) 2 [0,1]=2:=by
  unfold fT;simp only[List.foldl_cons,List.foldl_nil];rw[pY (n:=0) rfl,og (n:=1) (i:=1) rfl (by decide) rfl,JI];rfl
 show hO _ 0 { fZ 0 0 with high:=max 0 (fT [fZ 0 0,fZ 1 0,ju 2] 0 (fZ 0 0) (fg mO) [0,1]) }=_;rw[qd,this];rfl
theorem CW:ofP vn 2 (nM 2)=(vl,0):=by
 rw[jc,mD (k:=2) (r:=ju 2) _ rfl rfl];have hF:nM 2 vn 2 (ju 2)=(vl,0):=by
  unfold nM;rw[if_neg (by decide),if_neg (by decide)];show(eN (exP 1 0 [0,1] (fZ 0 0) (fZ 1 0) (ju 2)),(0:Int))=_;rw[Jc]
 rw[hF,lc Fz]
theorem AY:ofP vl 0 (i9 0 0)=(oN,0):=by
 rw[jc,mD (k:=0) (r:=fZ 0 2) _ rfl rfl];have hF:i9 0 0 vl 0 (fZ 0 2)=(oN,0):=by
  rw[rj _ _ _ _ _ (by decide) rfl];have h1:kY (fZ 0 2) 0=exD:=by
   unfold kY;rw[show m1 (fZ 0 2).log 0=mO from Ea];rfl
  rw[h1];show(eN oN,(0:Int))=_;rw[show eN oN=oN by unfold eN;rw[if_pos (by decide)]]
 rw[hF,lc GH]
theorem Cd:EF oN exB=((jZ,180),0):=by
 have hF:lG exB oN=((oN,180),0):=by unfold lG;rw[if_pos (by decide)]
 rw[v9,hF];dsimp only;rw[jz Cm (by decide),if_neg (by decide)]
theorem EO:ofP oN 2 (hY 2)=(jZ,181):=by
 rw[jc,mD (k:=2) (r:=ju 2) _ rfl rfl,hY,if_neg (by decide),if_pos (by decide),jz Cm (by decide)]
theorem Fd:ofP oN 1 (hY 1)=(tp,0):=by
 rw[jc,mD (k:=1) (r:=fZ 1 0) _ rfl rfl,hY,if_neg (by decide),if_neg (by decide),if_neg (by decide)];have h:eN { oN with epoch:=oN.epoch+1,leader:=1 }=tp:=by
  rw[lJ (j:=1) (y:=fZ 1 0) (by decide) rfl rfl];have:fT [exD,fZ 1 0,ju 2] 1 (fZ 1 0) 2 [1]=2:=by
   unfold fT;simp only[List.foldl_cons,List.foldl_nil];rw[pY (n:=1) rfl]
  show hO _ 1 { fZ 1 0 with high:=max 0 (fT [exD,fZ 1 0,ju 2] 1 (fZ 1 0) (fg mO) [1]) }=_;rw[qd,this];rfl
 rw[h,lc Cm]
theorem DL:ji tp=(mO,0):=by
 rw[ji,if_neg (fun h=>h BS),if_neg (by decide)];rfl
theorem Cu:ofP tp 0 li=(Ap,0):=by
 rw[jc,mD (k:=0) (r:=exD) _ rfl rfl,li,if_neg (by decide)];have h:uY exD=fZ 0 2:=by
  unfold uY;rw[show(iQ exD.log)=(mO,0)from yz pr];dsimp only;rw[qd,show m6 exD.eps 2=exE from Fg];rfl
 rw[h];show mc tp (Ap,0)=_;rw[lc BS]
theorem zP:ofP Ap 0 li=(jZ,150):=by
 rw[jc,mD (k:=0) (r:=fZ 0 2) _ rfl rfl,li,if_pos (show(fZ 0 2).up=true from rfl),jz GC (by decide)]
theorem qb{ep ld:Int}{is:KG}{a b c:Rp}{k:Nat}{r:Rp}(h:fA (exP ep ld is a b c)=0)(h0:0≤ld)(hk:atR [a,b,c] ld=some k)(hr:([a,b,c]:List Rp)[k]?=some r):nR (exP ep ld is a b c)=r.high:=by
 rw[nR,if_neg (fun hh=>hh h),if_pos (show 0≤(exP ep ld is a b c).leader from h0)];show(match atR [a,b,c] ld with | some k=>(([a,b,c]:List Rp)[k]?.map Rp.high).getD 0 | none=>0)=_
 rw[hk];dsimp only;rw[hr];rfl
theorem HC:nR qS=0:=qb (k:=0) (r:=fZ 0 0) FE (by decide) rfl rfl
theorem Hp:nR vn=0:=qb (k:=0) (r:=fZ 0 0) Fz (by decide) rfl rfl
theorem Is:nR vl=2:=qb (k:=0) (r:=fZ 0 2) GH (by decide) rfl rfl
theorem Jk:nR tp=2:=qb (k:=1) (r:=fZ 1 2) BS (by decide) rfl rfl
theorem F43:Fun Tryz.prog 43 5 v43 c43 o43:=Fun.mkA Tryz.func43 Tryz.ntmps43
theorem F11:Fun Tryz.prog 11 191 v11 c11 o11:=Fun.mkA Tryz.func11 Tryz.ntmps11
theorem nk(G:Ks):FnD Tryz.prog 43 #[] G (fun G' r=>∃ B d,r=.agg #[.int .i64 0,.int .i64 1,.int .i64 0,.int .i64 0,.int .i64 (-1),.int .i64 0,.int .i64 0,.bool false,.int .i64 0,.slice B 2 d]∧BE G' exB [.int .i64 0,.int .i64 1,.int .i64 0,.int .i64 0,.int .i64 (-1),.int .i64 0,.int .i64 0,.bool false,.int .i64 0,.slice B 2 d]):=by
 refine F43.fnD (by simp) (dY ?_);unfold c43;intros;refine gR 0 0 c43r0.eq_1 ?_;intros;refine gR 1 5 c43r1.eq_1 ?_;intro b hb;refine sI ?_;intros;try refine ed ?_
 have z0:(ByteArray.mk #[]).size≤maxLen:=by decide
 have z1:(ByteArray.mk #[118]).size≤maxLen:=by decide
 have z2:(ByteArray.mk #[119]).size≤maxLen:=by decide
 have hra:Cells RR 5 exB.recs [.int .i64 0,.string ⟨#[]⟩,.string ⟨#[118]⟩,.bool false,.int .i64 0,.int .i64 1,.string ⟨#[]⟩,.string ⟨#[119]⟩,.bool false,.int .i64 0] :=
  .cons (cs:=[_,_,_,_,_]) ⟨rfl,⟨jh,jh⟩,z0,z1⟩ rfl (.one ⟨rfl,⟨(by decide:I64 1),jh⟩,z0,z2⟩ rfl)
 refine eI (eh [] _ (by decide) hra) ?_;rintro h' ⟨G2,rfl,hg2,A2,c2,hA2,hc2,hm2,hs2⟩;cases hA2;intros;refine rW ?_;exact⟨some ⟨b,0,none⟩,2,rfl,some ⟨b,0,none⟩,2,rfl,⟨hc2,hm2,hs2⟩,jh,(by decide:I64 1),jh,jh,(by decide:I64 (-1)),jh,jh,jh⟩
theorem ic(n:Int):smR (ju n):=⟨na uP,by show(1:Nat)≤1000;decide,by show(0:Nat)≤1000;decide⟩
theorem gZ(n h:Int):smR (fZ n h):=⟨na pr,by show(1:Nat)≤1000;decide,by show(1:Nat)≤1000;decide⟩
theorem oX:smR exD:=⟨na pr,by show(1:Nat)≤1000;decide,by show(1:Nat)≤1000;decide⟩
theorem jb{ep ld:Int}{is:KG}{a b c:Rp}(h1:smR a)(h2:smR b)(h3:smR c)(hi:is.length≤1000):smP (exP ep ld is a b c):=by
 refine⟨fun r hr=>?_,by show[a,b,c].length≤1000;simp,hi⟩;have hr:r∈[a,b,c]:=hr;simp at hr;rcases hr with rfl | rfl | rfl <;> assumption
theorem iV{P:Program}{f:FuncId}{args:Array Value}{G:Ks}{R R':(Ks)→Value→Prop}(h:FnD P f args G R)(hr:∀ G' r,R G' r→R' G' r):FnD P f args G R':=fun L D=>(h L D).mono fun r h' ⟨G',e,hg,hR⟩=>⟨G',e,hg,hr _ _ hR⟩
theorem ptv{ep ld e:Int}{is:KG}{a b c:Rp}{G:Ks}{r:Value}(h:PtR (exP ep ld is a b c,e) G r):∃ A c' B d,r=.tuple #[.agg #[.int .i64 ep,.int .i64 ld,.int .i64 1,.slice A is.length c',.slice B 3 d],.int .i64 e]∧PE G (exP ep ld is a b c) [.int .i64 ep,.int .i64 ld,.int .i64 1,.slice A is.length c',.slice B 3 d]:=by
 obtain⟨cs,h1,h2⟩:=h;have h3:=h2;obtain⟨A,c',B,d,rfl,-⟩:=h2;exact⟨A,c',B,d,h1,h3⟩
theorem JD{e:Int}{G:Ks}{r:Value}(h:PtR (jZ,e) G r):∃ A c B d,r=.tuple #[.agg #[.int .i64 0,.int .i64 0,.int .i64 0,.slice A 0 c,.slice B 0 d],.int .i64 e]:=by
 obtain⟨cs,h1,h2⟩:=h;obtain⟨A,c',B,d,rfl,-⟩:=h2;exact⟨A,c',B,d,h1⟩
theorem FY(v:Value)(G:Ks)(hl:SlV G IE 1 v [0,1,2]):FnD Tryz.prog 13 #[v,.int .i64 4096,.int .i64 1] G (fun G' r=>∃ A c B d,r=.tuple #[.agg #[.int .i64 1,.int .i64 0,.int .i64 1,.slice A 3 c,.slice B 3 d],.int .i64 0]∧PE G' Bk [.int .i64 1,.int .i64 0,.int .i64 1,.slice A 3 c,.slice B 3 d]):=by
 have:=Dr [0,1,2] 4096 1 v G hl (by decide) (by decide);rw[CZ]at this;exact iV this fun _ _ h=>ptv h
theorem yI{A:Ky}{c:Nat}{B:Ky}{d:Nat}{cb:Kt}(G:Ks)(hp:PE G Bk [.int .i64 1,.int .i64 0,.int .i64 1,.slice A 3 c,.slice B 3 d])(hb:BE G exB cb):FnD Tryz.prog 25 #[.agg #[.int .i64 1,.int .i64 0,.int .i64 1,.slice A 3 c,.slice B 3 d],.agg cb.toArray] G (fun G' r=>∃ A c B d,r=.tuple #[.agg #[.int .i64 1,.int .i64 0,.int .i64 1,.slice A 3 c,.slice B 3 d],.int .i64 0,.int .i64 0]∧PE G' qS [.int .i64 1,.int .i64 0,.int .i64 1,.slice A 3 c,.slice B 3 d]):=by
 have:=oO Bk exB _ _ G hp (jb (ic _) (ic _) (ic _) (by decide)) hb;rw[CS]at this;refine iV this fun G' r ⟨cs,h1,h2⟩=>?_
 have h3:=h2;obtain⟨A,c',B,d,rfl,-⟩:=h2;exact⟨A,c',B,d,h1,h3⟩
theorem BW{A:Ky}{c:Nat}{B:Ky}{d:Nat}(G:Ks)(hp:PE G qS [.int .i64 1,.int .i64 0,.int .i64 1,.slice A 3 c,.slice B 3 d]):FnD Tryz.prog 33 #[.agg #[.int .i64 1,.int .i64 0,.int .i64 1,.slice A 3 c,.slice B 3 d],.int .i64 1] G (fun G' r=>∃ A c B d,r=.tuple #[.agg #[.int .i64 1,.int .i64 0,.int .i64 1,.slice A 3 c,.slice B 3 d],.int .i64 0]∧PE G' vn [.int .i64 1,.int .i64 0,.int .i64 1,.slice A 3 c,.slice B 3 d]):=by
 have:=Db qS _ 1 G hp (jb (gZ _ _) (ic _) (ic _) (by decide)) (by decide) (.inr (.inl (by decide)));rw[DJ]at this;exact iV this fun _ _ h=>ptv h
theorem Cy{A:Ky}{c:Nat}{B:Ky}{d:Nat}(G:Ks)(hp:PE G vn [.int .i64 1,.int .i64 0,.int .i64 1,.slice A 3 c,.slice B 3 d]):FnD Tryz.prog 44 #[.agg #[.int .i64 1,.int .i64 0,.int .i64 1,.slice A 3 c,.slice B 3 d],.int .i64 2] G (fun G' r=>∃ A c B d,r=.tuple #[.agg #[.int .i64 1,.int .i64 0,.int .i64 1,.slice A 2 c,.slice B 3 d],.int .i64 0]∧PE G' vl [.int .i64 1,.int .i64 0,.int .i64 1,.slice A 2 c,.slice B 3 d]):=by
 have:=Ds vn _ 2 G hp (jb (gZ _ _) (gZ _ _) (ic _) (by decide)) (by decide);rw[CW]at this;exact iV this fun _ _ h=>ptv h
theorem Ax{A:Ky}{c:Nat}{B:Ky}{d:Nat}(G:Ks)(hp:PE G vl [.int .i64 1,.int .i64 0,.int .i64 1,.slice A 2 c,.slice B 3 d]):FnD Tryz.prog 35 #[.agg #[.int .i64 1,.int .i64 0,.int .i64 1,.slice A 2 c,.slice B 3 d],.int .i64 0,.int .i64 0] G (fun G' r=>∃ A c B d,r=.tuple #[.agg #[.int .i64 1,.int .i64 (-1),.int .i64 1,.slice A 1 c,.slice B 3 d],.int .i64 0]∧PE G' oN [.int .i64 1,.int .i64 (-1),.int .i64 1,.slice A 1 c,.slice B 3 d]):=by
 have:=tL vl _ 0 0 G hp (jb (gZ _ _) (gZ _ _) (ic _) (by decide)) (by decide) (by decide);rw[AY]at this;exact iV this fun _ _ h=>ptv h
theorem sk{A:Ky}{c:Nat}{B:Ky}{d:Nat}{cb:Kt}(G:Ks)(hp:PE G oN [.int .i64 1,.int .i64 (-1),.int .i64 1,.slice A 1 c,.slice B 3 d])(hb:BE G exB cb):FnD Tryz.prog 25 #[.agg #[.int .i64 1,.int .i64 (-1),.int .i64 1,.slice A 1 c,.slice B 3 d],.agg cb.toArray] G (fun G' r=>∃ A c B d,r=.tuple #[.agg #[.int .i64 0,.int .i64 0,.int .i64 0,.slice A 0 c,.slice B 0 d],.int .i64 0,.int .i64 180]):=by
 have:=oO oN exB _ _ G hp (jb oX (gZ _ _) (ic _) (by decide)) hb;rw[Cd]at this;refine iV this fun G' r ⟨cs,h1,h2⟩=>?_
 obtain⟨A,c',B,d,rfl,-⟩:=h2;exact⟨A,c',B,d,h1⟩
theorem Gn{A:Ky}{c:Nat}{B:Ky}{d:Nat}(G:Ks)(hp:PE G oN [.int .i64 1,.int .i64 (-1),.int .i64 1,.slice A 1 c,.slice B 3 d]):FnD Tryz.prog 37 #[.agg #[.int .i64 1,.int .i64 (-1),.int .i64 1,.slice A 1 c,.slice B 3 d],.int .i64 2] G (fun G' r=>∃ A c B d,r=.tuple #[.agg #[.int .i64 0,.int .i64 0,.int .i64 0,.slice A 0 c,.slice B 0 d],.int .i64 181]):=by
 have:=pt oN _ 2 G hp (jb oX (gZ _ _) (ic _) (by decide)) (by decide);rw[EO]at this;exact iV this fun _ _ h=>JD h
theorem GI{A:Ky}{c:Nat}{B:Ky}{d:Nat}(G:Ks)(hp:PE G oN [.int .i64 1,.int .i64 (-1),.int .i64 1,.slice A 1 c,.slice B 3 d]):FnD Tryz.prog 37 #[.agg #[.int .i64 1,.int .i64 (-1),.int .i64 1,.slice A 1 c,.slice B 3 d],.int .i64 1] G (fun G' r=>∃ A c B d,r=.tuple #[.agg #[.int .i64 2,.int .i64 1,.int .i64 1,.slice A 1 c,.slice B 3 d],.int .i64 0]∧PE G' tp [.int .i64 2,.int .i64 1,.int .i64 1,.slice A 1 c,.slice B 3 d]):=by
 have:=pt oN _ 1 G hp (jb oX (gZ _ _) (ic _) (by decide)) (by decide);rw[Fd]at this;exact iV this fun _ _ h=>ptv h
theorem Co{A:Ky}{c:Nat}{B:Ky}{d:Nat}(G:Ks)(hp:PE G tp [.int .i64 2,.int .i64 1,.int .i64 1,.slice A 1 c,.slice B 3 d]):FnD Tryz.prog 15 #[.agg #[.int .i64 2,.int .i64 1,.int .i64 1,.slice A 1 c,.slice B 3 d]] G (fun G' r=>∃ A c,r=.tuple #[.agg #[.int .i64 4096,.int .i64 0,.slice A 1 c],.int .i64 0]∧LE G' mO [.int .i64 4096,.int .i64 0,.slice A 1 c]):=by
 have:=Dy tp _ G hp (jb oX (gZ _ _) (ic _) (by decide));rw[DL]at this;refine iV this fun G' r ⟨cs,h1,h2⟩=>?_
 have h3:=h2;obtain⟨A,c',rfl,-⟩:=h2;exact⟨A,c',h1,h3⟩
theorem DN{A:Ky}{c:Nat}{B:Ky}{d:Nat}(G:Ks)(hp:PE G tp [.int .i64 2,.int .i64 1,.int .i64 1,.slice A 1 c,.slice B 3 d]):FnD Tryz.prog 36 #[.agg #[.int .i64 2,.int .i64 1,.int .i64 1,.slice A 1 c,.slice B 3 d],.int .i64 0] G (fun G' r=>∃ A c B d,r=.tuple #[.agg #[.int .i64 2,.int .i64 1,.int .i64 1,.slice A 1 c,.slice B 3 d],.int .i64 0]∧PE G' Ap [.int .i64 2,.int .i64 1,.int .i64 1,.slice A 1 c,.slice B 3 d]):=by
 have:=sS tp _ 0 G hp (jb oX (gZ _ _) (ic _) (by decide)) (by decide);rw[Cu]at this;exact iV this fun _ _ h=>ptv h
theorem yW{A:Ky}{c:Nat}{B:Ky}{d:Nat}(G:Ks)(hp:PE G Ap [.int .i64 2,.int .i64 1,.int .i64 1,.slice A 1 c,.slice B 3 d]):FnD Tryz.prog 36 #[.agg #[.int .i64 2,.int .i64 1,.int .i64 1,.slice A 1 c,.slice B 3 d],.int .i64 0] G (fun G' r=>∃ A c B d,r=.tuple #[.agg #[.int .i64 0,.int .i64 0,.int .i64 0,.slice A 0 c,.slice B 0 d],.int .i64 150]):=by
 have:=sS Ap _ 0 G hp (jb (gZ _ _) (gZ _ _) (ic _) (by decide)) (by decide);rw[zP]at this;exact iV this fun _ _ h=>JD h
theorem dn0:decide ((0:Int)≠0)=false:=by decide
theorem dn1:decide (((1:Nat):Int)≠1)=false:=by decide
theorem FZ(e:Env)(G:Ks)(b3:Nat)(A:Ky)(c:Nat)(B:Ky)(d:Nat)(A4:Ky)(c4:Nat)(B4:Ky)(d4:Nat)(A5:Ky)(c5:Nat)(B5:Ky)(d5:Nat)(A6:Ky)(c6:Nat)(B6:Ky)(d6:Nat)
  (A9:Ky) (c9:Nat) (B9:Ky) (d9:Nat) (Aa:Ky) (ca:Nat) (Ab:Ky) (cb:Nat) (Bb:Ky) (db:Nat)
  (hpa:PE G qS [.int .i64 1,.int .i64 0,.int .i64 1,.slice A 3 c,.slice B 3 d]) (hpb:PE G vn [.int .i64 1,.int .i64 0,.int .i64 1,.slice A4 3 c4,.slice B4 3 d4]) (hpc:PE G vl [.int .i64 1,.int .i64 0,.int .i64 1,.slice A5 2 c5,.slice B5 3 d5]) (hpx:PE G tp [.int .i64 2,.int .i64 1,.int .i64 1,.slice A9 1 c9,.slice B9 3 d9]) (hll:LE G mO [.int .i64 4096,.int .i64 0,.slice Aa 1 ca]) (hpy:PE G Ap [.int .i64 2,.int .i64 1,.int .i64 1,.slice Ab 1 cb,.slice Bb 3 db])
  (e2:e 2=.int .i64 0) (e3:e 3=.pointer (some ⟨b3,0,none⟩)) (e4:e 4=.int .i64 0) (e5:e 5=.int .i64 0) (e7:e 7=.int .i64 0) (e9:e 9=.int .i64 0) (e11:e 11=.int .i64 0) (e14:e 14=.int .i64 180) (e16:e 16=.int .i64 181) (e18:e 18=.int .i64 0) (e20:e 20=.int .i64 0) (e22:e 22=.int .i64 0) (e24:e 24=.int .i64 150) :
  go none Tryz.prog 191 v11.1 v11.2 (fI o11 fun v x=>v=.bool true) [.s (.reg false c11r12),.s (.cond (.t 119) (.seq (.reg false c11r13) .ret) .skip),.s (.seq (.reg false c11r14) .ret)] e
   ⟨G,[.reg 21 [.int .i64 2,.int .i64 1,.int .i64 1,.slice Ab 1 cb,.slice Bb 3 db],.reg 19 [.int .i64 4096,.int .i64 0,.slice Aa 1 ca],.reg 17 [.int .i64 2,.int .i64 1,.int .i64 1,.slice A9 1 c9,.slice B9 3 d9],.reg 10 [.int .i64 1,.int .i64 (-1),.int .i64 1,.slice A6 1 c6,.slice B6 3 d6],.reg 8 [.int .i64 1,.int .i64 0,.int .i64 1,.slice A5 2 c5,.slice B5 3 d5],.reg 6 [.int .i64 1,.int .i64 0,.int .i64 1,.slice A4 3 c4,.slice B4 3 d4],.blk b3 [.int .i64 1,.int .i64 0,.int .i64 1,.slice A 3 c,.slice B 3 d]],[]⟩:=by
 have hna:∀ t:Bool,t=decide ((0:Int)≠0)→t=false:=fun t h=>by rw[h];rfl
 refine dV [2,3,4,5,7,9,11,14,16,18,20,22,24] ?_
 (try simp -implicitDefEqProofs only[mg,mf,push_cast,Nat.reduceBEq,Nat.reduceAdd,Nat.reduceSub,Nat.reduceMul,Nat.reduceLT,Nat.reduceLeDiff,Nat.reduceEqDiff,reduceIte,Bool.not_true,Bool.not_false,true_and,and_true,Option.map_some,Option.bind_some,Int.toNat_natCast,e2,e3,e4,e5,e7,e9,e11,e14,e16,e18,e20,e22,e24])
 intros;refine gr 84 119 ?_;rw[c11r12.eq_1];refine sI ?_;rw[dn0];refine sI ?_;rw[dn0];refine sI ?_;rw[dn0];refine sI ?_;rw[dn0];refine sI ?_;rw[dn0];refine sI ?_;rw[dn0];refine sI ?_;rw[dn0];refine sI ?_;rw[dn0];refine sI ?_;have dn1:decide ((0:Int)+1≠1)=false:=by decide
 have de:∀ n:Int,decide (n=n)=true:=fun n=>decide_eq_true rfl
 have ha:=pW qS _ G hpa (jb (gZ _ _) (ic _) (ic _) (by decide));rw[HC]at ha;have hb:=pW vn _ G hpb (jb (gZ _ _) (gZ _ _) (ic _) (by decide));rw[Hp]at hb;have hc:=pW vl _ G hpc (jb (gZ _ _) (gZ _ _) (ic _) (by decide));rw[Is]at hc;have hx:=pW tp _ G hpx (jb oX (gZ _ _) (ic _) (by decide));rw[Jk]at hx;have hend:=sP mO _ G hll (na pr) (by show(1:Nat)≤_;decide);rw[qd]at hend
 have hcy:=kq Ap _ G hpy (jb (gZ _ _) (gZ _ _) (ic _) (by decide));rw[GC]at hcy;have hcn:=kq jZ [.int .i64 0,.int .i64 0,.int .i64 0,.slice none 0 0,.slice none 0 0] G ⟨none,0,none,0,rfl,slN,slN,jh,jh,jh⟩ ⟨fun r h=>(by cases h),Nat.zero_le _,Nat.zero_le _⟩;rw[CA]at hcn;obtain⟨_,_,_,_,hex,hv1,-⟩:=hpx;unfold eB at hex;cases hex;obtain⟨A1,c1,he1,-,-,hA1⟩:=hv1;cases he1;intros;rw[dn1]
 intros;refine gC ?_;intros;refine gN ?_;intros;refine gr 120 190 ?_;rw[c11r14.eq_1];refine sI ?_;refine⟨_,lB (us:=[.int .i64 1,.int .i64 0,.int .i64 1,.slice A 3 c,.slice B 3 d]) (.tail _ (.tail _ (.tail _ (.tail _ (.tail _ (.tail _ (.head _))))))) rfl (fun j u h=>by rw[Nat.zero_add];exact h),?_⟩;refine sI ?_;refine fK (ha _ _) ?_;refine fK (hb _ _) ?_;refine fK (hc _ _) ?_
 refine⟨by decide,(hA1.x_l1 (k:=0) (x:=1) (j:=0) rfl rfl rfl ?_).2⟩;rintro a1 ha1 u1 ⟨hu,-⟩;cases hu;refine sI ?_;refine fK (hx _ _) ?_;refine fK (hend _ _) ?_;refine fK (hcy _ _) ?_;refine fK (hcn _ _) ?_;intros;intros;refine rV ?_;simp only[push_cast,Nat.reduceBEq]
theorem Ji(G:Ks):FnS Tryz.prog 11 #[] G (.bool true):=by
 refine F11.fnS (by simp) (dY ?_);unfold c11;intros;refine gR 0 0 c11r0.eq_1 ?_;intros;try refine ed ?_
 intros;refine gR 25 30 c11r1.eq_1 ?_;intro b hb;refine sI ?_;have h012:Cells IE 1 [0,1,2] [.int .i64 0,.int .i64 1,.int .i64 2]:=.cons (cs:=[_]) ⟨rfl,jh⟩ rfl (.cons (cs:=[_]) ⟨rfl,(by decide:I64 1)⟩ rfl (.one ⟨rfl,(by decide:I64 2)⟩ rfl));refine rc F13.enters (eh [] _ (by decide) h012) ?_;rintro h' ⟨G1,rfl,hg1,hv1⟩;refine(FY _ G1 hv1 _ _).mono ?_;rintro r h' ⟨G2,rfl,hg2,A,c,B,d,rfl,hp0⟩
 refine sI ?_;intros;try refine ed ?_
 refine eL (fun e h=>∃ (G3:Ks) (b3:Nat) (A:Ky) (c:Nat) (B:Ky) (d:Nat) (Lh:Kv),PE G3 qS [.int .i64 1,.int .i64 0,.int .i64 1,.slice A 3 c,.slice B 3 d]∧e 2=.int .i64 0∧e 3=.pointer (some ⟨b3,0,none⟩)∧e 4=.int .i64 0∧e 5=.int .i64 0∧h=⟨G3,Lh,[]⟩∧([.blk b3 [.int .i64 1,.int .i64 0,.int .i64 1,.slice A 3 c,.slice B 3 d]]:Kv).Sublist Lh) ?_ ?_
 ·intros;refine dT ?_;refine zK _ KJ (by decide) ?_;refine sJ c11r2.eq_1 ?_;refine⟨?_,?_⟩
  ·refine(nk G2 _ _).mono ?_;rintro r h' ⟨G3,rfl,hg3,Bb,db,rfl,hbe⟩;refine⟨lQ hg3,?_⟩;refine sI ?_;refine⟨?_,?_⟩
   ·refine(yI G3 (hp0.le hg3) hbe _ _).mono ?_;rintro r h' ⟨G4,rfl,hg4,A',c',B',d',rfl,hpa⟩;refine sI ?_;refine⟨lQ (hg3.trans hg4),?_⟩;refine sI ?_;intro b3 hb3;refine⟨ef (hg3.trans hg4) (.cons _ KJ),?_⟩;refine sI ?_;refine ek [] _ rfl (by simp) ⟨rfl,rfl⟩ ?_;refine sI ?_;refine⟨ef (hg3.trans hg4) (.cons _ KJ),?_⟩;refine sI ?_;exact eF ⟨G4,b3,A',c',B',d',_,hpa,eE,eE,eE,eE,rfl,.cons_cons _ KL⟩
   ·intro b3 hb3;refine⟨ef hg3 (.cons _ KJ),?_⟩;refine sI ?_;refine(yI G3 (hp0.le hg3) hbe _ _).mono ?_;rintro r h' ⟨G4,rfl,hg4,A',c',B',d',rfl,hpa⟩;refine sI ?_;refine⟨ef (hg3.trans hg4) (.cons _ KJ),?_⟩;refine sI ?_;refine ek [] _ rfl (by simp) ⟨rfl,rfl⟩ ?_;refine sI ?_;refine⟨ef (hg3.trans hg4) (.cons _ KJ),?_⟩;refine sI ?_;exact eF ⟨G4,b3,A',c',B',d',_,hpa,eE,eE,eE,eE,rfl,.cons_cons _ KL⟩
  ·intro b3 hb3;refine⟨ef KO (.cons _ KJ),?_⟩;refine sI ?_;refine(nk G2 _ _).mono ?_;rintro r h' ⟨G3,rfl,hg3,Bb,db,rfl,hbe⟩;refine⟨ef hg3 (.cons _ KJ),?_⟩;refine sI ?_;refine(yI G3 (hp0.le hg3) hbe _ _).mono ?_;rintro r h' ⟨G4,rfl,hg4,A',c',B',d',rfl,hpa⟩;refine sI ?_;refine⟨ef (hg3.trans hg4) (.cons _ KJ),?_⟩;refine sI ?_;refine ek [] _ rfl (by simp) ⟨rfl,rfl⟩ ?_;refine sI ?_
   refine⟨ef (hg3.trans hg4) (.cons _ KJ),?_⟩;refine sI ?_;exact eF ⟨G4,b3,A',c',B',d',_,hpa,eE,eE,eE,eE,rfl,.cons_cons _ KL⟩
 rintro e h ⟨G3,b3,A,c,B,d,Lh,hpa,e2,e3,e4,e5,rfl,hsub⟩;refine dV [2,3,4,5] ?_;refine sJ4 @e2 @e3 @e4 @e5 ?_;intros;refine dU (dX hsub) ?_;clear hsub hp0;intros;try refine ed ?_
 intros;refine gR 37 42 c11r3.eq_1 ?_;refine⟨_,lB (us:=[.int .i64 1,.int .i64 0,.int .i64 1,.slice A 3 c,.slice B 3 d]) (.head _) rfl (fun j u h=>by rw[Nat.zero_add];exact h),?_⟩;refine sI ?_;refine(BW G3 hpa _ _).mono ?_;rintro r h' ⟨G4,rfl,hg4,A4,c4,B4,d4,rfl,hpb⟩;refine sI ?_;intros;try refine ed ?_
 intros;refine gR 42 47 c11r4.eq_1 ?_;refine(Cy G4 hpb _ _).mono ?_;rintro r h' ⟨G5,rfl,hg5,A5,c5,B5,d5,rfl,hpc⟩;refine sI ?_;intros;try refine ed ?_
 intros;refine gR 47 52 c11r5.eq_1 ?_;refine(Ax G5 hpc _ _).mono ?_;rintro r h' ⟨G6,rfl,hg6,A6,c6,B6,d6,rfl,hpd⟩;refine sI ?_;intros;try refine ed ?_
 refine eL (fun e h=>∃ (G7:Ks) (Lh:Kv),Gle G6 G7∧e 2=.int .i64 0∧e 3=.pointer (some ⟨b3,0,none⟩)∧e 4=.int .i64 0∧e 5=.int .i64 0∧e 7=.int .i64 0∧e 9=.int .i64 0∧e 11=.int .i64 0∧e 14=.int .i64 180∧h=⟨G7,Lh,[]⟩∧([.reg 10 [.int .i64 1,.int .i64 (-1),.int .i64 1,.slice A6 1 c6,.slice B6 3 d6],.reg 8 [.int .i64 1,.int .i64 0,.int .i64 1,.slice A5 2 c5,.slice B5 3 d5],.reg 6 [.int .i64 1,.int .i64 0,.int .i64 1,.slice A4 3 c4,.slice B4 3 d4],.blk b3 [.int .i64 1,.int .i64 0,.int .i64 1,.slice A 3 c,.slice B 3 d]]:Kv).Sublist Lh) ?_ ?_
 ·intros;refine dT ?_;refine zK _ KJ (by decide) ?_;refine sJ c11r6.eq_1 ?_;refine⟨?_,?_⟩
  ·refine(nk G6 _ _).mono ?_;rintro r h' ⟨G7,rfl,hg7,Bb,db,rfl,hbe⟩;refine⟨lQ hg7,?_⟩;refine sI ?_;refine⟨?_,?_⟩
   ·refine(sk G7 (hpd.le hg7) hbe _ _).mono ?_;rintro r h' ⟨G8,rfl,hg8,A',c',B',d',rfl⟩;refine sI ?_;refine⟨lQ (hg7.trans hg8),?_⟩;refine sI ?_;intro b12 hb12;refine⟨ef (hg7.trans hg8) (.cons _ KJ),?_⟩;refine sI ?_;refine ek [] _ rfl (by simp) ⟨rfl,rfl⟩ ?_;refine sI ?_;refine⟨ef (hg7.trans hg8) (.cons _ KJ),?_⟩;refine sI ?_;exact eF ⟨G8,_,hg7.trans hg8,eE,eE,eE,eE,eE,eE,eE,eE,rfl,.cons _ KJ⟩
   ·intro b12 hb12;refine⟨ef hg7 (.cons _ KJ),?_⟩;refine sI ?_;refine(sk G7 (hpd.le hg7) hbe _ _).mono ?_;rintro r h' ⟨G8,rfl,hg8,A',c',B',d',rfl⟩;refine sI ?_;refine⟨ef (hg7.trans hg8) (.cons _ KJ),?_⟩;refine sI ?_;refine ek [] _ rfl (by simp) ⟨rfl,rfl⟩ ?_;refine sI ?_;refine⟨ef (hg7.trans hg8) (.cons _ KJ),?_⟩;refine sI ?_;exact eF ⟨G8,_,hg7.trans hg8,eE,eE,eE,eE,eE,eE,eE,eE,rfl,.cons _ KJ⟩
  ·intro b12 hb12;refine⟨ef KO (.cons _ KJ),?_⟩;refine sI ?_;refine(nk G6 _ _).mono ?_;rintro r h' ⟨G7,rfl,hg7,Bb,db,rfl,hbe⟩;refine⟨ef hg7 (.cons _ KJ),?_⟩;refine sI ?_;refine(sk G7 (hpd.le hg7) hbe _ _).mono ?_;rintro r h' ⟨G8,rfl,hg8,A',c',B',d',rfl⟩;refine sI ?_;refine⟨ef (hg7.trans hg8) (.cons _ KJ),?_⟩;refine sI ?_;refine ek [] _ rfl (by simp) ⟨rfl,rfl⟩ ?_;refine sI ?_
   refine⟨ef (hg7.trans hg8) (.cons _ KJ),?_⟩;refine sI ?_;exact eF ⟨G8,_,hg7.trans hg8,eE,eE,eE,eE,eE,eE,eE,eE,rfl,.cons _ KJ⟩
 rintro e h ⟨G7,Lh,hg7,e2,e3,e4,e5,e7,e9,e11,e14,rfl,hsub⟩;refine dV [2,3,4,5,7,9,11,14] ?_
 (try simp -implicitDefEqProofs only[mg,mf,push_cast,Nat.reduceBEq,Nat.reduceAdd,Nat.reduceSub,Nat.reduceMul,Nat.reduceLT,Nat.reduceLeDiff,Nat.reduceEqDiff,reduceIte,Bool.not_true,Bool.not_false,true_and,and_true,Option.map_some,Option.bind_some,Int.toNat_natCast,e2,e3,e4,e5,e7,e9,e11,e14])
 intros;refine dU (dX hsub) ?_;clear hsub;have hpd:=hpd.le hg7;intros;try refine ed ?_
 intros;refine gR 59 64 c11r7.eq_1 ?_;refine(Gn G7 hpd _ _).mono ?_;rintro r h' ⟨G8,rfl,hg8,A8,c8,B8,d8,rfl⟩;refine sI ?_;intros;try refine ed ?_
 intros;refine gR 64 69 c11r8.eq_1 ?_;refine(GI G8 (hpd.le hg8) _ _).mono ?_;rintro r h' ⟨G9,rfl,hg9,A9,c9,B9,d9,rfl,hpx⟩;refine sI ?_;intros;try refine ed ?_
 intros;refine gR 69 74 c11r9.eq_1 ?_;refine(Co G9 hpx _ _).mono ?_;rintro r h' ⟨Ga,rfl,hga,Aa,ca,rfl,hll⟩;refine sI ?_;intros;try refine ed ?_
 intros;refine gR 74 79 c11r10.eq_1 ?_;refine(DN Ga (hpx.le hga) _ _).mono ?_;rintro r h' ⟨Gb,rfl,hgb,Ab,cb,Bb,db,rfl,hpy⟩;refine sI ?_;intros;try refine ed ?_
 intros;refine gR 79 84 c11r11.eq_1 ?_;refine(yW Gb hpy _ _).mono ?_;rintro r h' ⟨Gc,rfl,hgc,Ac,cc,Bc,dc,rfl⟩;refine sI ?_;intros;try refine ed ?_
 intros;try refine ed ?_
 have h7c:Gle G7 Gc:=hg8.trans (hg9.trans (hga.trans (hgb.trans hgc)));have h5c:Gle G5 Gc:=hg6.trans (hg7.trans h7c);refine dU (dX (.cons _ (.cons_cons _ (.cons_cons _ (.cons_cons _ (.cons _ KJ)))))) ?_
 exact FZ _ Gc b3 A c B d A4 c4 B4 d4 A5 c5 B5 d5 A6 c6 B6 d6 A9 c9 B9 d9 Aa ca Ab cb Bb db (hpa.le (hg4.trans (hg5.trans h5c))) (hpb.le (hg5.trans h5c)) (hpc.le h5c) (hpx.le (hga.trans (hgb.trans hgc))) (hll.le (hgb.trans hgc)) (hpy.le hgc) (eE) (eE) (eE) (eE) (eE) (eE) (eE) (eE) (eE) (eE) (eE) (eE) (eE)
theorem F12:Fun Tryz.prog 12 43 v12 c12 o12:=Fun.mkA Tryz.func12 Tryz.ntmps12
theorem F34:Fun Tryz.prog 34 20 v34 c34 o34:=Fun.mkA Tryz.func34 Tryz.ntmps34
theorem Kn{P:Program}{h:H}{d n dd:Nat}{l:Ku}{G:Ks}{B:Ky}{xs:List Rp}{K:KH}{e:Addr→Env}{j N:Int}{k:Nat}{r:Rp}(hv:SlV G (RE G) 7 (.slice B n dd) xs)(hx:xs[k]?=some r)(hj:j=k)(hN:0≤j∧j < N)(hG:h.G=G)
  (hk:∀ a,B=some a→∀ A1 c1,LE G r.log (eG r.log A1 c1)→kR P l d (e a) K (.agg (eG r.log A1 c1).toArray) h):(0≤j∧j < N)∧∃ a,B=some a∧ldX P (.pointer (some ((a.add (j.toNat * 7)).add 2))) (some 3) d l (e a) h K:=by
 obtain⟨G',L,D⟩:=h;dsimp only at hG;subst hG;obtain⟨a,A1,c1,B1,d1,ha,hre,hl3,-⟩:=qm hv hx;obtain⟨A9,c9,B9,d9,he9,hs9,-,hlim,-⟩:=hre;unfold fk at he9;cases he9;subst hj;exact⟨hN,a,ha,_,by simpa using hl3 L D,hk a ha A1 c1 ⟨A1,c1,rfl,hs9,hlim⟩⟩
theorem JX{P:Program}{h:H}{d n dd:Nat}{l:Ku}{G:Ks}{B:Ky}{xs:List Rp}{K:Env→Prop}{e:Addr→Env}{j N:Int}{k:Nat}{r:Rp}(hv:SlV G (RE G) 7 (.slice B n dd) xs)(hx:xs[k]?=some r)(hj:j=k)(hN:0≤j∧j < N)(hG:h.G=G)
  (hk:∀ a,B=some a→∀ A1 c1,LE G r.log (eG r.log A1 c1)→kQ P l d (e a) h K (.agg (eG r.log A1 c1).toArray)):(0≤j∧j < N)∧∃ a,B=some a∧lqX P (.pointer (some ((a.add (j.toNat * 7)).add 2))) (some 3) d l (e a) h K:=by
 obtain⟨G',L,D⟩:=h;dsimp only at hG;subst hG;obtain⟨a,A1,c1,B1,d1,ha,hre,hl3,-⟩:=qm hv hx;obtain⟨A9,c9,B9,d9,he9,hs9,-,hlim,-⟩:=hre;unfold fk at he9;cases he9;subst hj;exact⟨hN,a,ha,_,by simpa using hl3 L D,hk a ha A1 c1 ⟨A1,c1,rfl,hs9,hlim⟩⟩
theorem vE(p:Pt)(n:Int)(cs:Kt)(G:Ks)(hp:PE G p cs):FnS Tryz.prog 34 #[.agg cs.toArray,.int .i64 n] G (.bool (decide (n∈p.isr))):=by
 obtain⟨A,c,B,d,rfl,⟨A0,c0,he,hc,hm,hA⟩,hv2,hI⟩:=hp;cases he;refine F34.fnS (by simp) (dY ?_);unfold c34 eB;intros;refine gR 0 0 c34r0.eq_1 ?_;intros;refine dT ?_;intros;refine gR 0 0 c34r1.eq_1 ?_;intros;refine dT ?_;refine ej (fun e h=>∃ k:Nat,(k≤p.isr.length∧n∉p.isr.take k)∧e 5=.int .i64 k∧e 1=.int .i64 n∧h=⟨G,[.reg 2 (eB p A c B d)],[]⟩) (fun e h=>p.isr.length - iv (e 5)) ?_ ?_
 ·exact⟨0,⟨Nat.zero_le _,by simp⟩,eE,eE,rfl⟩
 unfold eB;rintro e h ⟨k,⟨hk,hall⟩,e5,e1,rfl⟩;refine dV [5,1] ?_;refine sJ2 @e5 @e1 ?_;intros;refine gR 6 10 c34r2.eq_1 ?_;intros;refine gC ?_;refine gb (fun k1=>?_) (fun k1=>?_)
 ·have k1:k < p.isr.length:=by have:=KM k1;omega
  have hw:=eW k c (by omega) hm;obtain⟨x,hx⟩:∃ s,p.isr[k]?=some s:=⟨p.isr[k],getElem?_eq_getElem (by omega)⟩;intros;refine gN ?_;intros;refine gR 14 19 c34r3.eq_1 ?_;refine hA.x_l1 hx rfl rfl ?_;rintro a1 ha1 u1 ⟨hu,-⟩;cases hu;refine sI ?_;intros;refine gC ?_;refine gbD (fun k2=>?_) (fun k2=>?_)
  ·intros;refine gR 0 0 c34r4.eq_1 ?_;intros;refine rW ?_;rw[decide_eq_true];rw[← k2];exact mem_of_getElem? hx
  ·intros;refine gN ?_;intros;refine gR2 11 13 c34r5.eq_1 @hw ?_;intros;refine dT ?_;refine eF ⟨⟨k+1,⟨by omega,fun hz=>?_⟩,eE,eE,rfl⟩,?_⟩
   ·rw[eR hx]at hz;rcases List.mem_append.1 hz with h | h
    ·exact hall h
    ·simp at h;exact k2 h.symm
   ·refine sI ?_;omega
 ·have k1:k=p.isr.length:=by have:=KN k1;omega
  subst k1;rw[take_length]at hall;intros;refine gN ?_;refine eg ?_;refine sI ?_;intros;refine gR 0 0 c34r6.eq_1 ?_;intros;refine rW ?_;rw[decide_eq_false hall]
def IT(r:Rp):Prop:=r.log.segs.length≤12∧(∀ s∈r.log.segs,s.bytes.length≤5000)∧r.eps.length≤60
def FR(p:Pt):Prop:=p.reps.length≤8∧p.isr.length≤30∧∀ r∈p.reps,IT r
theorem FR.sm{p:Pt}(h:FR p):smP p:=⟨fun r hr=>⟨fun s hs=>by have:=(h.2.2 r hr).2.1 s hs;omega,by have:=(h.2.2 r hr).1;omega,by have:=(h.2.2 r hr).2.2;omega⟩,by have:=h.1;omega,by have:=h.2.1;omega⟩
theorem Cf(p:Pt)(cs:Kt)(G:Ks)(hp:PE G p cs):FnE Tryz.prog 12 #[.agg cs.toArray] G (fun r=>∃ b,r=.bool b∧(b=true→FR p)):=by
 obtain⟨A,c,B,d,rfl,⟨A0,c0,he,hc,hm,hA⟩,hv2,hI⟩:=hp;cases he;have hv:=hv2;obtain⟨B0,d0,he,hd,hn,hB⟩:=hv2;cases he;refine F12.fnE (by simp) (dY ?_);unfold c12 eB;have hd1:decide ((p.reps.length:Int)≤8)=decide (p.reps.length≤8):=decide_eq_decide.2 (by omega);have hd2:decide ((p.isr.length:Int)≤30)=decide (p.isr.length≤30):=decide_eq_decide.2 (by omega)
 have hrest:∀ (fr:KA) (e:Env),(p.reps.length≤9→∀ r∈p.reps,IT r)→go none Tryz.prog 43 v12.1 v12.2 (fI o12 fun r _=>∃ b,r=.bool b∧(b=true→FR p)) (Td.s ((SC.reg false c12r6).seq .ret) :: fr) e ⟨G,[.reg 1 [.int .i64 p.epoch,.int .i64 p.leader,.int .i64 p.least,.slice A p.isr.length c,.slice B p.reps.length d]],[]⟩:=fun fr e hall=>by
  intros;refine gR2 34 43 c12r6.eq_1 @hd1 ?_;refine gd (fun k1=>?_) (fun k1=>?_)
  ·have k1:=KM k1;refine sJ @hd2 ?_;intros;refine rW ?_;exact⟨_,rfl,fun h=>by have h:=KM h;exact⟨k1,h,hall (by omega)⟩⟩
  ·refine sI ?_;intros;refine rW ?_;exact⟨false,rfl,fun h=>by cases h⟩
 intros;refine gR 0 0 c12r0.eq_1 ?_;intros;refine gR 0 0 c12r1.eq_1 ?_;intros;refine dT ?_;refine ej (fun e h=>∃ k:Nat,(k≤p.reps.length∧∀ r∈p.reps.take k,IT r)∧e 3=.int .i64 k∧h=⟨G,[.reg 1 [.int .i64 p.epoch,.int .i64 p.leader,.int .i64 p.least,.slice A p.isr.length c,.slice B p.reps.length d]],[]⟩) (fun e h=>p.reps.length - iv (e 3)) ?_ ?_
 ·exact⟨0,⟨Nat.zero_le _,by simp⟩,eE,rfl⟩
 rintro e h ⟨k,⟨hk,hall⟩,e3,rfl⟩;refine dV [3] ?_;refine sJ @e3 ?_;intros;refine gR 4 12 c12r2.eq_1 ?_;refine gd (fun k1=>?_) (fun k1=>?_)
 ·have k1:k < p.reps.length:=by have:=KM k1;omega
  refine sI ?_;intros;refine gC ?_;refine gb (fun k2=>?_) (fun k2=>?_)
  ·have hw:=eW k d (by omega) hn;obtain⟨s,hs⟩:∃ s,p.reps[k]?=some s:=⟨p.reps[k],getElem?_eq_getElem (by omega)⟩
   have hno:∀ (fr:KA) (e:Env),go none Tryz.prog 43 v12.1 v12.2 (fI o12 fun r _=>∃ b,r=.bool b∧(b=true→FR p)) (Td.s ((SC.reg false c12r4).seq .ret) :: fr) e ⟨G,[.reg 1 [.int .i64 p.epoch,.int .i64 p.leader,.int .i64 p.least,.slice A p.isr.length c,.slice B p.reps.length d]],[]⟩:=fun fr e=>by
    intros;refine gR 0 0 c12r4.eq_1 ?_;intros;refine rW ?_;exact⟨false,rfl,fun h=>by cases h⟩
   intros;refine gN ?_;intros;refine gR 16 32 c12r3.eq_1 ?_;refine Kn hv hs rfl (by omega) rfl ?_;rintro a ha A1 c1 hle;have hfew:=C9 s.log _ G hle;refine sI ?_;unfold eG at hfew ⊢;refine(hfew _ _).mono ?_;rintro r h ⟨⟨b,rfl,hb⟩,rfl⟩;cases b with
   | false =>
    refine sI ?_;intros;refine gC ?_;exact hno _ _
   | true =>
    have hb:=hb rfl;refine sI ?_;refine GY (k:=k) (Pu:=fun u=>∃ B d,u=.slice B s.eps.length d) hB hs rfl rfl (fun cs h=>by obtain⟨_,_,B,d,rfl,-⟩:=h;exact⟨_,rfl,B,d,rfl⟩) ?_;rintro a2 ha2 u ⟨B2,d2,rfl⟩;refine sI ?_;intros;refine gC ?_;refine gb (fun k3=>?_) (fun k3=>?_)
    ·exact hno _ _
    ·have k3:=KN k3;intros;refine gN ?_;intros;refine gR2 13 15 c12r5.eq_1 @hw ?_;intros;refine dT ?_;refine eF ⟨⟨k+1,⟨by omega,fun z hz=>?_⟩,eE,rfl⟩,?_⟩
     ·rw[eR hs]at hz;rcases List.mem_append.1 hz with h | h
      ·exact hall z h
      ·simp at h;subst h;exact⟨hb.1,hb.2,by omega⟩
     ·refine sI ?_;omega
  ·have k2:=KN k2;refine eg ?_;refine sI ?_;intros;refine gN ?_;exact hrest _ _ fun h=>by omega
 ·have k1:k=p.reps.length:=by have:=KN k1;omega
  subst k1;rw[take_length]at hall;refine sI ?_;intros;refine gC ?_;refine eg ?_;refine sI ?_;intros;refine gN ?_;exact hrest _ _ fun _=>hall
theorem F148:Fun Tryz.prog 148 24 v148 c148 o148:=Fun.mkA Tryz.func148 Tryz.ntmps148
theorem Dl(s:Sg)(cs:Kt)(G:Ks)(hs:SE G s cs)(hb:s.bytes.length≤1000000):FnO Tryz.prog 148 #[.agg cs.toArray] G [] (fun _ L' r=>si (m8 s) L' r):=by
 have hscan:=nT s cs G hs;have hs0:=hs;obtain⟨A,c,rfl,hl,hib⟩:=hs;have hgl:=lM s;refine F148.fnO (by simp) dS (dY ?_);unfold c148;unfold gh at hscan hs0 ⊢;have hw:IntKind.i64.wrap ((s.bytes.length:Int) - (gk s:Int))=(s.bytes.length:Int) - (gk s:Int):=by rw[ei] <;> omega
 have hpre:=SlV.pre (gk s) hl hgl;obtain⟨_,_,hcc,hlc,-,-⟩:=id hl;cases hcc;intros;refine gR 0 0 c148r0.eq_1 ?_;intros;refine gR 6 11 c148r1.eq_1 ?_;refine(hscan _ _).mono ?_;rintro r h' ⟨G1,L',rfl,hg1,u,zc,rfl,-,rfl⟩;refine sI ?_;intros;refine dU (dX (.cons _ KJ)) ?_;intros;refine dT ?_;refine qe _ (.cons _ KJ) (by decide) ?_;refine sJ2 c148r2.eq_1 @hw ?_;refine⟨by omega,?_⟩
 refine(pz (rX _ _ G1 (SB.le hpre hg1) (by rw[List.length_take];omega)) _ _).mono ?_;rintro r h' ⟨G2,L',rfl,hg2,A2,c2,zc2,rfl,-,hzc2,rfl⟩;refine⟨ef hg2 (.cons _ (.cons _ KJ)),?_⟩;refine sI ?_;refine⟨ef hg2 (.cons _ (.cons _ KJ)),?_⟩;refine sI ?_;intros;refine dT ?_;refine ea (ee _ rfl (.cons_cons _ KL) (dW dS) ?_);exact⟨_,zc2,rfl,rfl,hzc2⟩
theorem F104:Fun Tryz.prog 104 9 v104 c104 o104:=Fun.mkA Tryz.func104 Tryz.ntmps104
theorem F147:Fun Tryz.prog 147 17 v147 c147 o147:=Fun.mkA Tryz.func147 Tryz.ntmps147
theorem F101:Fun Tryz.prog 101 73 v101 c101 o101:=Fun.mkA Tryz.func101 Tryz.ntmps101
theorem F150:Fun Tryz.prog 150 23 v150 c150 o150:=Fun.mkA Tryz.func150 Tryz.ntmps150
theorem F98:Fun Tryz.prog 98 8 v98 c98 o98:=Fun.mkA Tryz.func98 Tryz.ntmps98
theorem vx(n:Int)(G:Ks):FnS Tryz.prog 104 #[.int .i64 n] G (.bool (inO n)):=by
 refine F104.fnS (by simp) (dY ?_);unfold c104;intros;refine gR 0 0 c104r0.eq_1 ?_;intros;refine gR 3 9 c104r1.eq_1 ?_;refine gdD (fun h=>?_) (fun h=>?_)
 ·refine sI ?_;intros;refine rW ?_;rw[inO,decide_eq_true h,Bool.true_and]
 ·refine sI ?_;intros;refine rW ?_;rw[inO,decide_eq_false h,Bool.false_and]
theorem yb(s t:Sg)(cs ds:Kt)(G:Ks)(hs:SE G s cs)(ht:SE G t ds)(hb:s.bytes.length≤1000000):FnS Tryz.prog 147 #[.agg cs.toArray,.agg ds.toArray] G (.bool (oB s t)):=by
 have hend:=ws s cs G hs hb;obtain⟨A,c,rfl,hl,hi⟩:=hs;obtain⟨B,d,rfl,hm,hj⟩:=ht;refine F147.fnS (by simp) (dY ?_);unfold c147;unfold gh at hend ⊢;intros;refine gR 0 0 c147r0.eq_1 ?_;intros;refine dT ?_;refine lk _ KJ (by decide) ?_;refine sJ c147r1.eq_1 ?_;refine gx (fun k1=>?_) (fun k1=>?_)
 ·refine sI ?_;refine fK (hend _ _) ?_;intros;refine rW ?_;rw[oB,k1,Bool.true_and]
 ·refine sI ?_;intros;refine rW ?_;rw[oB,k1,Bool.false_and]
theorem mG{a b:Int}(h:a < 256∨4096 < a∨inO b=false):lz a b=false:=by
 have:¬ lz a b=true:=fun hh=>by
  have:=gM.1 hh;rcases h with h | h | h
  ·omega
  ·omega
  ·rw[h]at this;exact absurd this.2 (by simp)
 simpa using this
theorem DA(l:Lg)(cs:Kt)(G:Ks)(hl:LE G l cs)(hb:smL l.segs):FnS Tryz.prog 150 #[.agg cs.toArray] G (.int .i64 (yP l.start l.segs)):=by
 obtain⟨A,c,rfl,⟨A0,c0,he,hc,hm,hA⟩,hi,hj⟩:=hl;cases he;refine F150.fnS (by simp) (dY ?_);unfold c150 eG;intros;refine gR 0 0 c150r0.eq_1 ?_;intros;refine gR 6 7 c150r1.eq_1 ?_;intros;refine gR 0 0 c150r2.eq_1 ?_;intros;refine dT ?_
 refine ej (fun e h=>∃ k:Nat,k≤l.segs.length∧e 4=.int .i64 k∧e 3=.int .i64 (yP l.start (l.segs.take k))∧h=⟨G,[.reg 1 [.int .i64 l.limit,.int .i64 l.start,.slice A l.segs.length c]],[]⟩) (fun e h=>l.segs.length - iv (e 4)) ?_ ?_
 ·exact⟨0,Nat.zero_le _,eE,by refine sI ?_;rfl,rfl⟩
 rintro e h ⟨k,hk,e4,e3,rfl⟩;refine dV [3,4] ?_;refine sJ2 @e3 @e4 ?_;intros;refine gR 7 11 c150r3.eq_1 ?_;intros;refine gC ?_;refine gb (fun ht=>?_) (fun ht=>?_)
 ·have ht:k < l.segs.length:=by have:=KM ht;omega
  have hw:=eW k c (by omega) hm;obtain⟨s,hs⟩:∃ s,l.segs[k]?=some s:=⟨l.segs[k],getElem?_eq_getElem (by omega)⟩;have hbs:=hb s (mem_of_getElem? hs);have hmx:yP l.start (l.segs.take (k+1))=max (yP l.start (l.segs.take k)) (kf s):=by rw[eR hs,y8];rfl
  intros;refine gN ?_;intros;refine gR 14 22 c150r4.eq_1 ?_;refine hA.x_ld hs rfl rfl ?_;rintro a1 ha1 cs hse;have hend:=ws s cs G hse (by omega);obtain⟨B,d,rfl,-⟩:=hse;unfold gh at hend ⊢;refine sI ?_;refine fK (hend _ _) ?_;intros;refine gR2 12 14 c150r5.eq_1 @hw ?_;intros;refine dT ?_;refine eF ⟨⟨k+1,by omega,eE,(eJ @hmx),rfl⟩,?_⟩;refine sI ?_;omega
 ·have ht:k=l.segs.length:=by have:=KN ht;omega
  subst ht;rw[take_length]at e3 ⊢;refine eg ?_;refine sI ?_;intros;refine gR 22 23 c150r6.eq_1 ?_;intros;refine rV ?_;simp only[push_cast,Nat.reduceBEq]
theorem lV(l:Lg)(cs:Kt)(G:Ks)(hl:LE G l cs):FnS Tryz.prog 101 #[.agg cs.toArray] G (.int .i64 (fS l)):=by
 obtain⟨A,c,rfl,hsl,hi,hj⟩:=hl;obtain⟨A0,c0,he,hc,hmx,hA⟩:=hsl;cases he;refine F101.fnS (by simp) (dY ?_);unfold c101 eG
 have hbad:∀ (fr:KA) (e:Env),¬ (lz l.limit l.start=true∧l.segs≠[])→go none Tryz.prog 73 v101.1 v101.2 (fI o101 fun v h=>v=.int .i64 (fS l)) (Td.s ((SC.reg false c101r2).seq .ret) :: fr) e ⟨G,[.reg 1 [.int .i64 l.limit,.int .i64 l.start,.slice A l.segs.length c]],[]⟩:=fun fr e h=>by
  intros;refine gR 0 0 c101r2.eq_1 ?_;intros;refine rW ?_;rw[fS,if_neg fun hh=>h ⟨hh.1,hh.2.1⟩]
 intros;refine gR 0 0 c101r0.eq_1 ?_;intros;refine gR 5 23 c101r1.eq_1 ?_;refine gd (fun k1=>?_) (fun k1=>?_)
 ·refine sI ?_;intros;refine gC ?_;exact hbad _ _ fun h=>by rw[mG (.inl (KM k1))]at h;cases h.1
 have k1:=KN k1;refine sI ?_;refine gd (fun k2=>?_) (fun k2=>?_)
 ·refine sI ?_;intros;refine gC ?_;exact hbad _ _ fun h=>by rw[mG (.inr (.inl (KM k2)))]at h;cases h.1
 have k2:=KN k2;refine sI ?_;refine fK (vx _ _ _ _) ?_;refine gd (fun k3=>?_) (fun k3=>?_)
 ·have k3:inO l.start=false:=by simpa using k3
  refine sI ?_;intros;refine gC ?_;exact hbad _ _ fun h=>by rw[mG (.inr (.inr k3))]at h;cases h.1
 have k3:inO l.start=true:=by simpa using k3
 have km:lz l.limit l.start=true:=gM.2 ⟨⟨by omega,by omega⟩,k3⟩;refine sI ?_;intros;refine gC ?_;refine gb (fun k4=>?_) (fun k4=>?_)
 ·have k4:l.segs=[]:=List.eq_nil_of_length_eq_zero (by have:=KM k4;omega);exact hbad _ _ fun h=>h.2 k4
 have k4:l.segs≠[]:=fun h=>by rw[h]at k4;simp at k4
 clear hbad;intros;refine gN ?_;intros;try refine ed ?_
 refine eL (fun e h=>okS l.limit none l.segs∧h=⟨G,[.reg 1 [.int .i64 l.limit,.int .i64 l.start,.slice A l.segs.length c]],[]⟩) ?_ ?_
 ·intros;refine gR 0 0 c101r3.eq_1 ?_;intros;refine dT ?_;refine ej (fun e h=>∃ k:Nat,(k≤l.segs.length∧okS l.limit none (l.segs.take k))∧e 3=.int .i64 k∧h=⟨G,[.reg 1 [.int .i64 l.limit,.int .i64 l.start,.slice A l.segs.length c]],[]⟩) (fun e h=>l.segs.length - iv (e 3)) ?_ ?_
  ·exact⟨0,⟨Nat.zero_le _,trivial⟩,eE,rfl⟩
  rintro e h ⟨k,⟨hk,hok⟩,e3,rfl⟩;refine dV [3] ?_;refine sJ @e3 ?_;intros;refine gR 24 28 c101r4.eq_1 ?_;intros;refine gC ?_;refine gb (fun ht=>?_) (fun ht=>?_)
  ·have ht:k < l.segs.length:=by have:=KM ht;omega
   have hw:=eW k c (by omega) hmx;obtain⟨s,hs⟩:∃ s,l.segs[k]?=some s:=⟨l.segs[k],getElem?_eq_getElem (by omega)⟩;have hno:∀ (fr:KA) (e:Env) (X:Kv),¬ AK l.limit (kg none (l.segs.take k)) s→go none Tryz.prog 73 v101.1 v101.2 (fI o101 fun v h=>v=.int .i64 (fS l)) (Td.s ((SC.reg false c101r6).seq .ret) :: fr) e ⟨G,X,[]⟩:=fun fr e X hn=>by
    intros;refine gR 0 0 c101r6.eq_1 ?_;intros;refine rW ?_;rw[we hs hn]
   have hnx:AK l.limit (kg none (l.segs.take k)) s→okS l.limit none (l.segs.take (k+1)):=fun h=>(pw hs).2 ⟨hok,h⟩
   intros;refine gN ?_;intros;refine dT ?_;refine lk _ KJ (by decide) ?_;refine sJ c101r5.eq_1 ?_;refine hA.y_ld hs rfl rfl ?_;rintro a1 ha1 cs hse;have hwh:=oF s cs G hse;obtain⟨B,d,rfl,hsb,hsi⟩:=hse;unfold gh at hwh ⊢;refine sI ?_;refine fK (hwh _ _) ?_;refine gx (fun k5=>?_) (fun k5=>?_)
   ·have k5:fL s=false:=by simpa using k5
    refine sI ?_;intros;refine gC ?_;exact hno _ _ _ fun h=>by have:=h.1.1;rw[k5]at this;cases this
   have k5:fL s=true:=by simpa using k5
   refine sI ?_;refine Jz (k:=k) (Pu:=fun u=>∃ B d,u=.slice B s.bytes.length d) hA hs rfl rfl (fun cs h=>by obtain⟨B,d,rfl,-⟩:=h;exact⟨_,rfl,B,d,rfl⟩) ?_;rintro a2 ha2 u ⟨B2,d2,rfl⟩;refine sI ?_;refine gxD (fun k6=>?_) (fun k6=>?_)
   ·refine sI ?_;intros;refine gC ?_;exact hno _ _ _ fun h=>by have:=h.1.2;omega
   refine sI ?_;refine gx (fun k7=>?_) (fun k7=>?_)
   ·have k7:0 < k:=by have:=KM k7;omega
    have hw1:IntKind.i64.wrap ((k:Int) - 1)=(k:Int) - 1:=by unfold maxLen at hmx;rw[ei] <;> omega
    obtain⟨p,hp⟩:∃ p,l.segs[k - 1]?=some p:=⟨l.segs[k - 1],getElem?_eq_getElem (by omega)⟩;have hbp:=(sG hok p (mem_of_getElem? (i:=k - 1) (by rw[List.getElem?_take,if_pos (by omega)];exact hp))).2;have hlm:=(gM.1 km).1.2;have hep:=lT k7 hp;refine sJ @hw1 ?_;refine hA.y_ld hp (by omega) rfl ?_;rintro a3 ha3 cs3 hpe;have hpe0:=hpe;obtain⟨B3,d3,rfl,-⟩:=hpe;unfold gh at hpe0 ⊢;refine sI ?_
    refine hA.y_ld hs rfl rfl ?_;rintro a4 ha4 cs4 hse4;have hfo:=yb p s _ cs4 G hpe0 hse4 (by omega);obtain⟨B4,d4,rfl,-⟩:=hse4;unfold gh at hfo ⊢;refine sI ?_;refine fK (hfo _ _) ?_;intros;refine gC ?_;refine gb (fun k8=>?_) (fun k8=>?_)
    ·have k8:oB p s=false:=by simpa using k8
     exact hno _ _ _ fun h=>by have:=h.2 p hep;rw[k8]at this;cases this
    ·have k8:oB p s=true:=by simpa using k8
     intros;refine gN ?_;intros;refine gR2 29 31 c101r7.eq_1 @hw ?_;intros;refine dT ?_;refine eF ⟨⟨k+1,⟨by omega,hnx ⟨⟨k5,by omega⟩,fun a ha=>by rw[hep]at ha;cases ha;exact k8⟩⟩,eE,rfl⟩,?_⟩;refine sI ?_;omega
   ·have k7:k=0:=by have:=KN k7;omega
    refine sI ?_;intros;refine gC ?_;intros;refine gN ?_;intros;refine gR2 29 31 c101r7.eq_1 @hw ?_;intros;refine dT ?_;refine eF ⟨⟨k+1,⟨by omega,hnx ⟨⟨k5,by omega⟩,fun a ha=>by rw[k7]at ha;cases ha⟩⟩,eE,rfl⟩,?_⟩;refine sI ?_;omega
  ·have ht:k=l.segs.length:=by have:=KN ht;omega
   subst ht;rw[take_length]at hok;refine eg ?_;refine sI ?_;intros;refine gN ?_;exact eF ⟨hok,rfl⟩
 rintro e h ⟨hok,rfl⟩;refine dV [] ?_;intros;intros;refine gR 70 72 c101r8.eq_1 ?_;intros;refine gC ?_;refine gbD (fun k5=>?_) (fun k5=>?_)
 ·intros;refine gR 0 0 c101r9.eq_1 ?_;intros;refine rW ?_;rw[fS,if_pos ⟨km,k4,hok⟩,if_pos (by omega)]
 ·intros;refine gN ?_;intros;refine gR 0 0 c101r10.eq_1 ?_;intros;refine rW ?_;rw[fS,if_pos ⟨km,k4,hok⟩,if_neg (by omega)]
theorem jP(l:Lg)(cs:Kt)(G:Ks)(hl:LE G l cs)(hb:smL l.segs):FnS Tryz.prog 98 #[.agg cs.toArray] G (.int .i64 (fg l)):=by
 have hchk:=lV l cs G hl;have hend:=DA l cs G hl hb;obtain⟨A,c,rfl,hsl,hi,hj⟩:=hl;refine F98.fnS (by simp) (dY ?_);unfold c98;unfold eG at hchk hend ⊢;intros;refine gR 0 0 c98r0.eq_1 ?_;intros;refine gR 3 5 c98r1.eq_1 ?_;refine fK (hchk _ _) ?_;intros;refine gC ?_;refine gb (fun k1=>?_) (fun k1=>?_)
 ·have k1:=KM k1;intros;refine gR 0 0 c98r2.eq_1 ?_;intros;refine rW ?_;rw[fg,if_neg k1]
 ·have k1:fS l=0:=by simpa using k1
  intros;refine gN ?_;intros;refine gR 6 8 c98r3.eq_1 ?_;refine fK (hend _ _) ?_;intros;refine rW ?_;rw[fg,if_pos k1,El (ib k1).2.2.1]
theorem F97:Fun Tryz.prog 97 108 v97 c97 o97:=Fun.mkA Tryz.func97 Tryz.ntmps97
def uM(l:List Sg):Bool:=mi none l && (match kg none l with | none=>true | some a=>fL a)
theorem zl{l:List Sg}{k:Nat}{s:Sg}(h:l[k]?=some s):(uM (l.take k) && (match kg none (l.take k)with | none=>true | some a=>oB a s))=mi none (l.take (k+1))∧uM (l.take (k+1))=(mi none (l.take (k+1)) && fL s):=by
 have h2:=(rT h).2;constructor
 ·rw[h2,uM];cases kg none (l.take k)with
  | none=>simp[jC]
  | some a=>simp[jC,Bool.and_assoc]
 ·rw[uM,oh none h]
set_option maxHeartbeats 1000000 in
theorem xW(l:Lg)(cs:Kt)(G:Ks)(hl:LE G l cs)(hb:smL l.segs)(hm:l.segs.length≤1000):
  FnD Tryz.prog 97 #[.agg cs.toArray] G (LgR (iQ l)):=by
 obtain⟨A,c,rfl,hsl,hi,hj⟩:=hl;have hsl0:=hsl;obtain⟨A0,c0,he,hc,hmx,hA⟩:=hsl;cases he;refine F97.fnD (by simp) (dY ?_);unfold c97 eG
 have hbad:∀ (fr:KA) (e:Env),¬ (lz l.limit l.start=true∧lH l=true)→go none Tryz.prog 108 v97.1 v97.2 (fI o97 fun v h=>LgR (iQ l) h.G v) (Td.s ((SC.reg false c97r2).seq .ret) :: fr) e ⟨G,[.reg 2 [.int .i64 0,.int .i64 0,.slice none 0 0],.reg 1 [.int .i64 l.limit,.int .i64 l.start,.slice A l.segs.length c]],[]⟩:=fun fr e h=>by
  intros;refine gR 39 40 c97r2.eq_1 ?_;intros;refine rW ?_;rw[iQ,if_neg h];exact gV
 intros;refine gR 0 0 c97r0.eq_1 ?_;intros;intros;try refine ed ?_
 refine eL (fun e h=>(lz l.limit l.start=true∧lH l=true)∧h=⟨G,[.reg 2 [.int .i64 0,.int .i64 0,.slice none 0 0],.reg 1 [.int .i64 l.limit,.int .i64 l.start,.slice A l.segs.length c]],[]⟩) ?_ ?_
 ·intros;refine gR 11 38 c97r1.eq_1 ?_;refine gd (fun k1=>?_) (fun k1=>?_)
  ·refine sI ?_;intros;refine gC ?_;exact hbad _ _ fun h=>by rw[mG (.inl (KM k1))]at h;cases h.1
  have k1:=KN k1;refine sI ?_;refine gd (fun k2=>?_) (fun k2=>?_)
  ·refine sI ?_;intros;refine gC ?_;exact hbad _ _ fun h=>by rw[mG (.inr (.inl (KM k2)))]at h;cases h.1
  have k2:=KN k2;refine sI ?_;refine fK (vx _ _ _ _) ?_;refine gd (fun k3=>?_) (fun k3=>?_)
  ·have k3:inO l.start=false:=by simpa using k3
   refine sI ?_;intros;refine gC ?_;exact hbad _ _ fun h=>by rw[mG (.inr (.inr k3))]at h;cases h.1
  have k3:inO l.start=true:=by simpa using k3
  have km:lz l.limit l.start=true:=gM.2 ⟨⟨by omega,by omega⟩,k3⟩;refine sI ?_;refine gd (fun k4=>?_) (fun k4=>?_)
  ·have k4:l.segs=[]:=List.eq_nil_of_length_eq_zero (by have:=KM k4;omega);have hh:lH l=false:=by unfold lH;rw[k4]
   refine sI ?_;intros;refine gC ?_;exact hbad _ _ fun h=>by rw[hh]at h;cases h.2
  have k4:¬ l.segs=[]:=fun h=>by rw[h]at k4;simp at k4
  obtain⟨s0,ss,hss⟩:=List.exists_cons_of_ne_nil k4;have hs0:l.segs[0]?=some s0:=by rw[hss];rfl
  have hh:lH l=inO s0.base:=by unfold lH;rw[hss]
  refine sI ?_;refine hA.x_lf (k:=0) (u:=.int .i64 s0.base) hs0 rfl rfl (fun cs h=>by obtain⟨_,_,rfl,-⟩:=h;rfl) fun a ha=>?_
  refine sI ?_;refine fK (vx _ _ _ _) ?_;intros;refine gC ?_;refine gb (fun k5=>?_) (fun k5=>?_)
  ·have k5:inO s0.base=false:=by simpa using k5
   exact hbad _ _ fun h=>by rw[hh,k5]at h;cases h.2
  ·have k5:inO s0.base=true:=by simpa using k5
   intros;refine gN ?_;exact eF ⟨⟨km,by rw[hh,k5]⟩,rfl⟩
 rintro e h ⟨⟨k1,k2⟩,rfl⟩;refine dV [] ?_;clear hbad;have hrec:iQ l=(⟨l.limit,l.start,fP none l.segs⟩,(gi l.segs:Int) - (gi (fP none l.segs):Int)):=by rw[iQ,if_pos ⟨k1,k2⟩]
 rw[hrec];have hsm:=wu hb;intros;intros;refine gR 41 45 c97r3.eq_1 ?_;intros;refine gR 0 0 c97r4.eq_1 ?_;intros;refine gR 0 0 c97r5.eq_1 ?_;intros;intros;try refine ed ?_
 refine dU (eA none 120 2) ?_
 refine eL (fun e h=>∃ (G':Ks) (A2:Ky) (c2:Nat) (zc:Kt),(Gle G G'∧Cells (SE G') 2 (fP none l.segs) zc)∧e 5=.int .i64 ((gi l.segs:Int) - (gi (fP none l.segs):Int))∧h=⟨G',[.row (.slice A2 (fP none l.segs).length c2) 120 2 (fP none l.segs).length zc,.reg 4 [.int .i64 l.limit,.int .i64 l.start,.slice A2 (fP none l.segs).length c2],.reg 2 [.int .i64 0,.int .i64 0,.slice none 0 0],.reg 1 [.int .i64 l.limit,.int .i64 l.start,.slice A l.segs.length c]],[]⟩) ?_ ?_
 ·intros;refine gR 0 0 c97r6.eq_1 ?_;intros;refine dT ?_
  refine ej (fun e h=>∃ (k:Nat) (G':Ks) (A2:Ky) (c2:Nat) (zc:Kt),(k≤l.segs.length∧Gle G G'∧Cells (SE G') 2 (fP none (l.segs.take k)) zc)∧e 7=.int .i64 k∧e 5=.int .i64 ((gi (l.segs.take k):Int) - (gi (fP none (l.segs.take k)):Int))∧e 6=.bool (uM (l.segs.take k))∧h=⟨G',[.row (.slice A2 (fP none (l.segs.take k)).length c2) 120 2 (fP none (l.segs.take k)).length zc,.reg 4 [.int .i64 l.limit,.int .i64 l.start,.slice A2 (fP none (l.segs.take k)).length c2],.reg 2 [.int .i64 0,.int .i64 0,.slice none 0 0],.reg 1 [.int .i64 l.limit,.int .i64 l.start,.slice A l.segs.length c]],[]⟩) (fun e h=>l.segs.length - iv (e 7)) ?_ ?_
  ·exact⟨0,G,none,0,[],⟨Nat.zero_le _,.refl _,.nil⟩,eE,by refine sI ?_;rfl,by refine sI ?_;rfl,rfl⟩
  rintro e h ⟨k,G',A2,c2,zc,⟨hk,hg',hzc⟩,e7,e5,e6,rfl⟩;refine dV [5,6,7] ?_;refine sJ3 @e5 @e6 @e7 ?_;intros;refine gR 45 49 c97r7.eq_1 ?_;intros;refine gC ?_;refine gb (fun ht=>?_) (fun ht=>?_)
  ·have ht:k < l.segs.length:=by have:=KM ht;omega
   have hw:=eW k c (by omega) hmx;obtain⟨s,hs⟩:∃ s,l.segs[k]?=some s:=⟨l.segs[k],getElem?_eq_getElem (by omega)⟩;have hbs:=hb s (mem_of_getElem? hs);obtain⟨hr1,hr2⟩:=rT hs;obtain⟨hk1,hk2⟩:=zl hs;rw[← hr2]at hr1;obtain⟨hle,-⟩:=o5 (l.segs.take k) none;have hlk:(l.segs.take k).length=k:=by rw[List.length_take];omega
   rw[hlk]at hle;have hz1:gi (l.segs.take (k+1))=gi (l.segs.take k)+s.bytes.length:=by rw[eR hs,lR];simp[gi]
   have hz2:=rz l.segs (k+1);have hz3:=p6 (l.segs.take k) none;have hA':=hA.le hg' (E':=SE G') fun _ _ h=>SE.le hg' h
   intros;refine gN ?_;intros;try refine ed ?_
   refine tq ?_;intros;try refine ed ?_
   refine eL (fun e h=>e 6=.bool (mi none (l.segs.take (k+1)))∧e 7=.int .i64 k∧e 5=.int .i64 ((gi (l.segs.take k):Int) - (gi (fP none (l.segs.take k)):Int))∧h=⟨G',[.row (.slice A2 (fP none (l.segs.take k)).length c2) 120 2 (fP none (l.segs.take k)).length zc,.reg 4 [.int .i64 l.limit,.int .i64 l.start,.slice A2 (fP none (l.segs.take k)).length c2],.reg 2 [.int .i64 0,.int .i64 0,.slice none 0 0],.reg 1 [.int .i64 l.limit,.int .i64 l.start,.slice A l.segs.length c]],[]⟩) ?_ ?_
   ·intros;refine dT ?_;refine lk _ KJ (by decide) ?_;refine sJ c97r8.eq_1 ?_;refine gx (fun k3=>?_) (fun k3=>?_)
    ·rw[k3,Bool.true_and]at hk1;refine sI ?_;refine gx (fun k4=>?_) (fun k4=>?_)
     ·have k4:k=0:=by have:=KM k4;omega
      have hq:mi none (l.segs.take (k+1))=true:=by rw[← hk1,k4];rfl
      refine sI ?_;intros;refine dT ?_;exact eF ⟨(eJ @hq),eE,eE,rfl⟩
     ·have k4:0 < k:=by have:=KN k4;omega
      have hw1:IntKind.i64.wrap ((k:Int) - 1)=(k:Int) - 1:=by unfold maxLen at hmx;rw[ei] <;> omega
      obtain⟨p,hp⟩:∃ p,l.segs[k - 1]?=some p:=⟨l.segs[k - 1],getElem?_eq_getElem (by omega)⟩;have hbp:=hb p (mem_of_getElem? hp);rw[lT k4 hp]at hk1;have hq:mi none (l.segs.take (k+1))=oB p s:=hk1.symm;refine sJ @hw1 ?_;refine hA'.y_ld hp (by omega) rfl ?_;rintro a2 ha2 cs2 hpe;have hpe0:=hpe;obtain⟨B2,d2,rfl,-⟩:=hpe;unfold gh at hpe0 ⊢;refine sI ?_;refine hA'.y_ld hs rfl rfl ?_
      rintro a3 ha3 cs3 hse;have hfo:=yb p s _ cs3 G' hpe0 hse (by omega);obtain⟨B3,d3,rfl,-⟩:=hse;unfold gh at hfo ⊢;refine sI ?_;refine fK (hfo _ _) ?_;intros;refine dT ?_;exact eF ⟨(eJ @hq),eE,eE,rfl⟩
    ·rw[k3,Bool.false_and]at hk1;have hq:mi none (l.segs.take (k+1))=false:=hk1.symm;refine sI ?_;intros;refine dT ?_;exact eF ⟨(eJ @hq),eE,eE,rfl⟩
   rintro e h ⟨e6,e7,e5,rfl⟩;refine dV [5,6,7] ?_;refine sJ3 @e5 @e6 @e7 ?_;intros;refine gR 71 72 c97r9.eq_1 ?_;intros;refine gC ?_;refine gb (fun k3=>?_) (fun k3=>?_)
   ·have k3:mi none (l.segs.take (k+1))=false:=by simpa using k3
    rw[k3]at hr1 hk2 ⊢;have hr1':fP none (l.segs.take (k+1))=fP none (l.segs.take k):=by rw[hr1];simp
    have hq:uM (l.segs.take (k+1))=false:=by rw[hk2];rfl
    have hw2:IntKind.i64.wrap ((gi (l.segs.take k):Int) - (gi (fP none (l.segs.take (k+1))):Int)+(s.bytes.length:Int))=(gi (l.segs.take (k+1)):Int) - (gi (fP none (l.segs.take (k+1))):Int):=by rw[hr1',hz1,ei] <;> omega
    rw[← hr1']at hzc ⊢;intros;refine gR 73 82 c97r10.eq_1 ?_;refine GY (k:=k) (Pu:=fun u=>∃ B d,u=.slice B s.bytes.length d) hA' hs rfl rfl (fun cs h=>by obtain⟨B,d,rfl,-⟩:=h;exact⟨_,rfl,B,d,rfl⟩) ?_;rintro a ha u ⟨B,d,rfl⟩;refine sJ @hw2 ?_;intros;intros;refine dT ?_;refine eg ?_;refine sI ?_;intros;refine gR2 50 52 c97r15.eq_1 @hw ?_;intros;refine dT ?_
    refine eF ⟨⟨k+1,G',A2,c2,zc,⟨by omega,hg',hzc⟩,eE,eE,(eJ @hq),rfl⟩,?_⟩;refine sI ?_;omega
   ·have k3:mi none (l.segs.take (k+1))=true:=by simpa using k3
    rw[k3,if_pos rfl]at hr1;rw[k3,Bool.true_and]at hk2;have hfl:=(zX s).2.2;have hgl:=lM s;have hf2:(m8 s).2=(s.bytes.length:Int) - (gk s:Int):=rfl;have hfb:(m8 s).1.base=s.base:=rfl;have hw2:IntKind.i64.wrap ((gi (l.segs.take k):Int) - (gi (fP none (l.segs.take k)):Int)+(m8 s).2)=(gi (l.segs.take (k+1)):Int) - (gi (fP none (l.segs.take (k+1))):Int):=by
     rw[hr1,lR,hz1,hf2];simp only[gi,hfl];rw[ei] <;> omega
    intros;refine gN ?_;intros;refine gR 82 91 c97r11.eq_1 ?_;refine hA'.x_ld hs rfl rfl ?_;rintro a ha cs hse;have hfix:=mo (Dl s cs G' hse (by omega));obtain⟨B,d,rfl,hsb,hsi⟩:=hse;unfold gh at hfix ⊢;refine sI ?_;generalize m8 s=q at *;obtain⟨s',er⟩:=q;dsimp only at hfl hf2 hfb hw2 hr1;refine(hfix _ _).mono ?_;rintro r h' ⟨G2,rfl,hg2,A3,c3,rfl,hs3⟩;dsimp only at hs3 ⊢
    have hzc2:Cells (SE G2) 2 (fP none (l.segs.take k)) zc:=fa hzc fun _ _ h=>SE.le hg2 h
    have hse3:SE G2 s' [.int .i64 s'.base,.slice A3 s'.bytes.length c3]:=⟨A3,c3,rfl,hs3,by rw[hfb];exact hsi⟩;have hA2:=hA.le (hg'.trans hg2) (E':=SE G2) fun _ _ h=>SE.le (hg'.trans hg2) h
    refine sI ?_;intros;refine gR 92 96 c97r12.eq_1 ?_;intro bk hbk;refine xj (L1:=[_]) (L2:=[_,_,_]) (E:=SE G2) (x:=s') rfl hse3 rfl (by simp[Value.oneCell']) hzc2 (by omega) (by omega) fun A' c' zc' hzc'=>?_
    rw[← hr1]at hzc' ⊢;refine sI ?_;intros;refine gR2 97 100 c97r13.eq_1 @hw2 ?_;intros;refine gR 101 106 c97r14.eq_1 ?_;refine hA2.x_ld hs rfl rfl ?_;rintro a4 ha4 cs4 hse4;have hwh:=oF s cs4 G2 hse4;obtain⟨B4,d4,rfl,-⟩:=hse4;unfold gh at hwh ⊢;refine sI ?_;refine fK (hwh _ _) ?_;intros;intros;refine gN ?_;refine dU (dX (.cons _ (.cons _ KJ))) ?_;intros;refine gR2 50 52 c97r15.eq_1 @hw ?_
    intros;refine dT ?_;refine eF ⟨⟨k+1,G2,A',c',zc',⟨by omega,hg'.trans hg2,hzc'⟩,eE,eE,(eJ @hk2),rfl⟩,?_⟩;refine sI ?_;omega
  ·have ht:k=l.segs.length:=by have:=KN ht;omega
   subst ht;rw[take_length]at hzc e5 ⊢;refine eg ?_;refine sI ?_;intros;refine gN ?_;exact eF ⟨G',A2,c2,zc,⟨hg',hzc⟩,eE,rfl⟩
 rintro e h ⟨G1,A2,c2,zc,⟨hg1,hzc⟩,e5,rfl⟩;refine dV [5] ?_;refine sJ @e5 ?_;intros;refine eI (eh [] _ (by decide) hzc) ?_;rintro h' ⟨G2,rfl,hg2,hv2⟩;intros;refine gR 106 108 c97r16.eq_1 ?_;intros;refine rW ?_;exact⟨_,rfl,A2,c2,rfl,hv2.le (.refl _) fun _ _ h=>SE.le hg2 h,hi,hj⟩
theorem F78:Fun Tryz.prog 78 26 v78 c78 o78:=Fun.mkA Tryz.func78 Tryz.ntmps78
theorem Gq(x y:Ep):AW true [0,0] (.agg #[Value.int .i64 x.1,Value.int .i64 x.2]) (.agg #[Value.int .i64 y.1,Value.int .i64 y.2])=some (.bool (decide (x≠y))):=by
 have:decide (x=y)=(decide (x.1=y.1) && decide (x.2=y.2)):=by
  rw[Bool.eq_iff_iff];simp[Prod.ext_iff]
 simp[AW,eqC,this,Bool.not_and]
theorem zT(a b:List Ep)(v u:Value)(G:Ks)(ha:SEp G v a)(hb:SEp G u b):FnS Tryz.prog 78 #[v,u] G (.bool (decide (a=b))):=by
 obtain⟨A,c,rfl,hc,hm,hA⟩:=ha;obtain⟨B,c',rfl,hc',hm',hB⟩:=hb;refine F78.fnS (by simp) (dY ?_);unfold c78;intros;refine gR 0 0 c78r0.eq_1 ?_;intros;refine gR 6 10 c78r1.eq_1 ?_;intros;refine gC ?_;refine gb (fun ht=>?_) (fun ht=>?_)
 ·intros;refine gR 0 0 c78r2.eq_1 ?_;intros;refine rW ?_;have:¬ a=b:=fun e=>by subst e;simp at ht
  simp[this]
 have hlen:a.length=b.length:=by simp at ht;omega
 intros;refine gR 11 12 c78r3.eq_1 ?_;intros;refine dT ?_;refine ej (fun e h=>∃ k:Nat,(k≤a.length∧a.take k=b.take k)∧e 13=.int .i64 k∧e 12=.int .i64 a.length∧e 0=.slice A a.length c∧e 1=.slice B b.length c'∧h=⟨G,[],[]⟩) (fun e h=>a.length - iv (e 13)) ?_ ?_
 ·exact⟨0,⟨Nat.zero_le _,rfl⟩,eE,eE,eE,eE,rfl⟩
 ·rintro e h ⟨k,⟨hk,hch⟩,e13,e12,e0,e1,rfl⟩;refine dV [0,1,12,13] ?_;refine sJ4 @e0 @e1 @e12 @e13 ?_;intros;refine gR 0 0 c78r4.eq_1 ?_;intros;refine gC ?_;refine gb (fun ht=>?_) (fun ht=>?_)
  ·have hkl:k < a.length:=by simpa using ht
   obtain⟨x,hx⟩:∃ x,a[k]?=some x:=⟨a[k],getElem?_eq_getElem (by omega)⟩;obtain⟨y,hy⟩:∃ y,b[k]?=some y:=⟨b[k],getElem?_eq_getElem (by omega)⟩;intros;refine gR 15 16 c78r5.eq_1 ?_;intros;refine dT ?_;refine qB 16 24 (by decide) ?_;refine sJ c78r6.eq_1 ?_;refine hA.y_ld hx rfl rfl ?_;rintro a1 ha1 cs ⟨rfl,-⟩;refine sI ?_;refine hB.y_ld hy rfl rfl ?_;rintro a2 ha2 cs ⟨rfl,-⟩;refine sJ @Gq ?_
   intros;refine gC ?_;refine gb (fun h4=>?_) (fun h4=>?_)
   ·intros;refine gR 0 0 c78r7.eq_1 ?_;intros;refine rW ?_;have:¬ a=b:=fun e=>by subst e;rw[hx]at hy;cases hy;simp at h4
    simp[this]
   ·intros;refine gR 25 26 c78r8.eq_1 ?_;intros;refine dT ?_;have hw3:IntKind.i64.wrap ((k:Int)+1)=(k:Int)+1:=by have:=hm;unfold maxLen at this;rw[ei] <;> omega
    refine eF ⟨⟨k+1,⟨by omega,?_⟩,?_⟩,?_⟩
    ·have hxy:x=y:=by simp at h4;exact Prod.ext h4.1 h4.2
     rw[List.take_add_one,List.take_add_one,hch,hx,hy,hxy]
    ·refine⟨(eJ @hw3),eE,eE,eE,rfl⟩
    ·refine sJ @hw3 ?_;omega
  ·have hkl:k=a.length:=by simp at ht;omega
   subst hkl;refine eg ?_;refine sI ?_;intros;refine gR 0 0 c78r9.eq_1 ?_;intros;refine rW ?_;have:a=b:=by
    rw[take_length,hlen,take_length]at hch;exact hch
   simp[this]
theorem F110:Fun Tryz.prog 110 57 v110 c110 o110:=Fun.mkA Tryz.func110 Tryz.ntmps110
theorem F173:Fun Tryz.prog 173 19 v173 c173 o173:=Fun.mkA Tryz.func173 Tryz.ntmps173
theorem F99:Fun Tryz.prog 99 29 v99 c99 o99:=Fun.mkA Tryz.func99 Tryz.ntmps99
theorem F146:Fun Tryz.prog 146 53 v146 c146 o146:=Fun.mkA Tryz.func146 Tryz.ntmps146
theorem kW(l:List Ep)(v:Value)(G:Ks)(hl:SEp G v l):FnS Tryz.prog 110 #[v] G (.int .i64 (gP l)):=by
 obtain⟨A,c,rfl,hc,hm,hA⟩:=hl;refine F110.fnS (by simp) (dY ?_);unfold c110;intros;refine gR 0 0 c110r0.eq_1 ?_;intros;refine gR 0 0 c110r1.eq_1 ?_;intros;refine dT ?_;refine ej (fun e h=>∃ k:Nat,(k≤l.length∧Chk l k)∧e 7=.int .i64 k∧e 6=.int .i64 l.length∧e 5=.slice A l.length c∧e 0=.slice A l.length c∧e 2=.int .i64 0∧h.G=G∧h.D=[]) (fun e h=>l.length - iv (e 7)) ?_ ?_
 ·exact⟨0,⟨Nat.zero_le _,fun i x hi=>absurd hi (by omega)⟩,eE,eE,eE,eE,eE,rfl,rfl⟩
 ·rintro e ⟨G',L,D⟩ ⟨k,⟨hk,hch⟩,e7,e6,e5,e0,e2,hG,hD⟩;dsimp only at hG hD;subst hG hD;refine dU (h':=⟨G',[],[]⟩) (dX KL) ?_;refine dV [0,2,5,6,7] ?_;refine sJ5 @e0 @e2 @e5 @e6 @e7 ?_;intros;refine gR 0 0 c110r2.eq_1 ?_;intros;refine gC ?_;have hw3:k < l.length→IntKind.i64.wrap ((k:Int)+1)=(k:Int)+1:=fun _=>by have:=hm;unfold maxLen at this;rw[ei] <;> omega
  refine gb (fun ht=>?_) (fun ht=>?_)
  ·have hkl:k < l.length:=by simpa using ht
   obtain⟨x,hx⟩:∃ x,l[k]?=some x:=⟨l[k],getElem?_eq_getElem (by omega)⟩;have hno:¬ (okE x=true∧∀ p,0 < k→l[k - 1]?=some p→p.1 < x.1∧p.2 < x.2)→gP l=1:=fun hn=>by
    rw[gP,if_neg];intro hc2;exact hn (hc2 k x hkl hx)
   intros;refine gR 9 12 c110r3.eq_1 ?_;refine hA.x_ld hx rfl rfl ?_;rintro a1 ha1 cs ⟨rfl,i1,i2⟩;refine sI ?_;intros;refine dT ?_;refine qB 13 55 (by decide) ?_;refine sJ c110r4.eq_1 ?_;refine gq (fun h1=>?_) (fun h1=>?_)
   ·refine sI ?_;intros;refine gC ?_;intros;refine gR 0 0 c110r5.eq_1 ?_;intros;refine rW ?_;rw[hno];rintro⟨h9,_⟩;simp[okE]at h9 h1;omega
   refine sI ?_;refine gq (fun h2=>?_) (fun h2=>?_)
   ·refine sI ?_;intros;refine gC ?_;intros;refine gR 0 0 c110r5.eq_1 ?_;intros;refine rW ?_;rw[hno];rintro⟨h9,_⟩;simp[okE]at h9 h2;omega
   refine sI ?_;refine gq (fun h3=>?_) (fun h3=>?_)
   ·refine sI ?_;intros;refine gC ?_;intros;refine gR 0 0 c110r5.eq_1 ?_;intros;refine rW ?_;rw[hno];rintro⟨h9,_⟩;simp[okE]at h9 h3;omega
   refine sI ?_;refine gq (fun h4=>?_) (fun h4=>?_)
   ·refine sI ?_;intros;refine gC ?_;intros;refine gR 0 0 c110r5.eq_1 ?_;intros;refine rW ?_;rw[hno];rintro⟨h9,_⟩;simp[okE]at h9 h4;omega
   refine sI ?_;have hok:okE x=true:=by simp at h1 h2 h3 h4;simp[okE];omega
   refine gq (fun h5=>?_) (fun h5=>?_)
   ·refine sI ?_;have hk0:0 < k:=by simp at h5;omega
    obtain⟨p,hp⟩:∃ p,l[k - 1]?=some p:=⟨l[k - 1],getElem?_eq_getElem (by omega)⟩;have hw:IntKind.i64.wrap ((k:Int) - 1)=((k - 1:Nat):Int):=by have:=hm;unfold maxLen at this;rw[ei] <;> omega
    refine hA.y_lf hp hw rfl (fun cs h=>by rw[h.1];rfl) fun a ha=>?_
    refine sI ?_;refine gq (fun h6=>?_) (fun h6=>?_)
    ·refine sI ?_;intros;refine gC ?_;intros;refine gR 0 0 c110r5.eq_1 ?_;intros;refine rW ?_;rw[hno];rintro⟨_,h9⟩;have:=h9 p hk0 hp;simp at h6;omega
    ·refine sI ?_;refine hA.y_lf hp hw rfl (fun cs h=>by rw[h.1];rfl) fun a ha=>?_
     refine sI ?_;intros;refine gC ?_;refine gb (fun h7=>?_) (fun h7=>?_)
     ·intros;refine gR 0 0 c110r5.eq_1 ?_;intros;refine rW ?_;rw[hno];rintro⟨_,h9⟩;have:=h9 p hk0 hp;simp at h7;omega
     ·intros;refine gR 56 57 c110r6.eq_1 ?_;intros;refine dT ?_;refine eF ⟨⟨k+1,⟨by omega,ni hch hx hok fun p' _ hp'=>?_⟩,?_⟩,?_⟩
      ·rw[hp]at hp';cases hp';simp at h6 h7;omega
      ·refine⟨(eJ (hw3 hkl)),eE,eE,eE,eE,rfl,rfl⟩
      ·(refine sJ (hw3 hkl) ?_);omega
   ·have hk0:k=0:=by simp at h5;omega
    refine sI ?_;intros;refine gC ?_;intros;refine gR 56 57 c110r6.eq_1 ?_;intros;refine dT ?_;refine eF ⟨⟨k+1,⟨by omega,ni hch hx hok fun p' h0 hp'=>absurd h0 (by omega)⟩,?_⟩,?_⟩
    ·refine⟨(eJ (hw3 hkl)),eE,eE,eE,eE,rfl,rfl⟩
    ·(refine sJ (hw3 hkl) ?_);omega
  ·have hkl:k=l.length:=by simp at ht;omega
   subst hkl;refine eg ?_;refine sI ?_;intros;refine gR 0 0 c110r7.eq_1 ?_;intros;refine rW ?_;rw[gP,if_pos hch]
theorem t8(l:List Ep)(k:Nat)(en:Int)(v:Value)(G:Ks)(hl:SEp G v l)(hk:k < l.length):
  FnS Tryz.prog 173 #[v,.int .i64 k,.int .i64 en] G (.int .i64 ((l[k+1]?.map (·.2)).getD en)):=by
 refine F173.fnS (by simp) (dY ?_);obtain⟨A,c,rfl,hc,hm,hA⟩:=hl;have hw:=eW k c (by omega) hm;unfold c173;intros;refine gR 0 0 c173r0.eq_1 ?_;intros;refine gR2 7 11 c173r1.eq_1 @hw ?_;intros;refine gC ?_;refine gb (fun h1=>?_) (fun h1=>?_)
 ·obtain⟨y,hy⟩:∃ y,l[k+1]?=some y:=⟨l[k+1]'(by simp at h1;omega),getElem?_eq_getElem _⟩;intros;refine gR2 12 18 c173r2.eq_1 @hw ?_;refine hA.x_lf hy (by simp) rfl (fun cs h=>by rw[h.1];rfl) fun a ha=>?_
  refine sI ?_;intros;refine rW ?_;rw[hy];rfl
 ·intros;refine gR 18 19 c173r3.eq_1 ?_;intros;refine rW ?_;rw[List.getElem?_eq_none (by simp at h1;omega)];rfl
theorem Jn{P:Program}{h:H}{d:Nat}{l:Ku}{e:Env}{K:KH}{u:Value}{b:Nat}{zs:List Ep}{zc:Kt}{L1 L2:Kv}{x:Ep}(hL:h.L=.row (.slice (some ⟨b,0,none⟩) 1 1) 151 2 1 [.int .i64 x.1,.int .i64 x.2] :: L1++.row u 151 2 zs.length zc :: L2)
  (hc:Cells EpE 2 zs zc) (hz:zs.length≤10000000) (h1:I64 x.1) (h2:I64 x.2)
  (hk:∀ A' c' zc',Cells EpE 2 (zs++[x]) zc'→kR P l d e K (.slice A' (zs++[x]).length c') ⟨h.G,.row (.slice (some ⟨b,0,none⟩) 1 1) 151 2 1 [.int .i64 x.1,.int .i64 x.2] :: L1++.row (.slice A' (zs++[x]).length c') 151 2 (zs++[x]).length zc' :: L2,h.D⟩) :
  apX P u (.slice (some ⟨b,0,none⟩) 1 1) 151 2 16 d l e h K:=by
 refine⟨.row (.slice (some ⟨b,0,none⟩) 1 1) 151 2 1 [.int .i64 x.1,.int .i64 x.2] :: L1,zs.length,zc,L2,1,[.int .i64 x.1,.int .i64 x.2],.inl hL,kO (h:=h) (by rw[hL];exact .head _) ?_ rfl,by unfold maxLen;omega,fun A' c'=>?_⟩
 ·intro u hu;simp at hu;rcases hu with rfl | rfl <;> rfl
 ·have:=hk A' c' (zc++[.int .i64 x.1,.int .i64 x.2]) (hc.app (.one ⟨rfl,h1,h2⟩ rfl));simp only[length_append,List.length_cons,List.length_nil,Nat.zero_add]at this;exact this
theorem zM(l:List Ep)(off:Int)(v:Value)(G:Ks)(hl:SEp G v l)(hb:l.length≤1000000):
  FnO Tryz.prog 99 #[v,.int .i64 off] G [] (fun _ L' r=>Cz (m6 l off) L' r):=by
 refine F99.fnO (by simp) dS (dY ?_);have hl0:=hl;obtain⟨A,c,rfl,hc,hm,hA⟩:=hl;unfold c99;intros;refine gR 0 0 c99r0.eq_1 ?_;intros;refine gR 0 0 c99r1.eq_1 ?_;intros;refine gR 0 0 c99r2.eq_1 ?_;intros;refine dT ?_;refine dU (eA none 151 2) ?_;refine ej (fun e h=>∃ (k:Nat) (u:Value) (zc:Kt),(k≤l.length∧Cells EpE 2 ((l.take k).filter fun x=>decide (gP l=0) && decide (x.2 < off)) zc) ∧
   e 10=.int .i64 k∧e 9=.int .i64 l.length∧e 8=.slice A l.length c∧e 0=.slice A l.length c∧e 1=.int .i64 off∧e 5=u∧h.G=G∧h.D=[] ∧
   [Item.row u 151 2 ((l.take k).filter fun x=>decide (gP l=0) && decide (x.2 < off)).length zc].Sublist h.L) (fun e h=>l.length - iv (e 10)) ?_ ?_
 ·exact⟨0,_,[],⟨Nat.zero_le _,.nil⟩,eE,eE,eE,eE,eE,rfl,rfl,rfl,List.Sublist.refl _⟩
 ·rintro e ⟨G',L,D⟩ ⟨k,u,zc,⟨hk,hcs⟩,e10,e9,e8,e0,e1,e5,hG,hD,hL⟩;dsimp only at hG hD hL;subst hG hD;refine dU (dX hL) ?_;refine dV [0,1,5,8,9,10] ?_;refine sJ6 @e0 @e1 @e5 @e8 @e9 @e10 ?_;have hzl:((l.take k).filter fun x=>decide (gP l=0) && decide (x.2 < off)).length≤k:=Nat.le_trans (List.length_filter_le ..) (by simp;omega)
  generalize hzs:(l.take k).filter (fun x=>decide (gP l=0) && decide (x.2 < off))=zs at *;intros;refine gR 0 0 c99r3.eq_1 ?_;intros;refine gC ?_;refine gb (fun ht=>?_) (fun ht=>?_)
  ·have hkl:k < l.length:=by simpa using ht
   have hw3:=eW k c (by omega) hm;obtain⟨x,hx⟩:∃ x,l[k]?=some x:=⟨l[k],getElem?_eq_getElem (by omega)⟩;have hnext:(l.take (k+1)).filter (fun x=>decide (gP l=0) && decide (x.2 < off))=zs++if (decide (gP l=0) && decide (x.2 < off))=true then[x]else[]:=by
    rw[List.take_add_one,hx,List.filter_append,hzs];simp only[Option.toList_some,List.filter_cons,List.filter_nil]
   intros;refine gR 12 14 c99r4.eq_1 ?_;refine hA.x_ld hx rfl rfl ?_;rintro a1 ha1 cs ⟨rfl,i1,i2⟩;refine sI ?_;intros;refine gR 14 22 c99r5.eq_1 ?_;refine(kW _ _ _ hl0 _ _).mono ?_;rintro v h' ⟨rfl,rfl⟩;refine sI ?_;have hno:∀ e b,(decide (gP l=0) && decide (x.2 < off))=false→e 10=.int .i64 k→e 9=.int .i64 l.length→e 8=.slice A l.length c→e 0=.slice A l.length c→e 1=.int .i64 off→e 5=u→b=u →
     go none Tryz.prog 29 v99.1 v99.2 (fI o99 fun v h=>Cz (m6 l off) h.L v) [Td.s (.reg false c99r7),Td.l (fun e' h'=>(∃ (k:Nat) (u:Value) (zc:Kt),(k≤l.length∧Cells EpE 2 ((l.take k).filter fun x=>decide (gP l=0) && decide (x.2 < off)) zc) ∧
   e' 10=.int .i64 k∧e' 9=.int .i64 l.length∧e' 8=.slice A l.length c∧e' 0=.slice A l.length c∧e' 1=.int .i64 off∧e' 5=u∧h'.G=G'∧h'.D=[] ∧
   [Item.row u 151 2 ((l.take k).filter fun x=>decide (gP l=0) && decide (x.2 < off)).length zc].Sublist h'.L)∧l.length - iv (e' 10) < l.length - k),Td.b 0,Td.s ((SC.reg false c99r8).seq SC.ret)] e ⟨G',[Item.reg 7 [.int .i64 x.1,.int .i64 x.2],Item.row u 151 2 zs.length zc],[]⟩:=fun e b hf e10 e9 e8 e0 e1 e5 _=>by
    rw[hf]at hnext;simp only[Bool.false_eq_true,if_false,append_nil]at hnext;intros;refine gr 27 28 ?_;refine sJ3 c99r7.eq_1 @e10 @hw3 ?_;intros;refine dT ?_;refine eF ⟨⟨k+1,u,zc,⟨by omega,by rw[hnext];exact hcs⟩,eE,(eJ @e9),(eJ @e8),(eJ @e0),(eJ @e1),(eJ @e5),rfl,rfl,by rw[hnext];exact List.sublist_cons_self _ _⟩,?_⟩;refine sI ?_;omega
   refine gd (fun h1=>?_) (fun h1=>?_)
   ·refine sI ?_;intros;refine gC ?_;refine gb (fun h2=>?_) (fun h2=>?_)
    ·intros;refine gR 23 27 c99r6.eq_1 ?_;intro b hb';refine Jn (L1:=[_]) (L2:=[]) (x:=x) rfl hcs (by omega) i1 i2 fun A' c' zc' hc'=>?_
     refine sI ?_;rw[if_pos (by rw[h1,h2];rfl)]at hnext;intros;refine gR2 27 28 c99r7.eq_1 @hw3 ?_;intros;refine dT ?_;refine eF ⟨⟨k+1,_,zc',⟨by omega,by rw[hnext];exact hc'⟩,eE,eE,eE,eE,eE,rfl,rfl,rfl,?_⟩,?_⟩
     ·rw[hnext];exact .cons _ (.cons _ KJ)
     ·refine sI ?_;omega
    ·intros;refine dT ?_;exact hno _ u (by rw[h2];simp) rfl rfl rfl rfl rfl rfl rfl
   ·refine sI ?_;intros;refine gC ?_;intros;refine dT ?_;exact hno _ u (by rw[h1];rfl) rfl rfl rfl rfl rfl rfl rfl
  ·have hkl:k=l.length:=by simp at ht;omega
   subst hkl;refine eg ?_;refine sI ?_;intros;refine gR 28 29 c99r8.eq_1 ?_;intros;refine dT ?_;rw[take_length]at hzs;refine ea (ee _ rfl KJ (dW dS) ?_);refine⟨zc,?_,?_⟩
   ·rw[m6,hzs];exact hcs
   ·rw[m6,hzs];rfl
def zH(a b:List Ep)(ae be:Int)(k:Nat)(m:Int):Prop :=
 ((∀ (i:Nat) (x:Ep) (j:Nat) (y:Ep),i < k→a[i]?=some x→b[j]?=some y→x.1≠y.1)∧m=0) ∨
 ∃ (i:Nat) (x:Ep) (j:Nat) (y:Ep),i < k∧a[i]?=some x∧b[j]?=some y∧x.1=y.1∧(∀ (i':Nat) (x':Ep) (j':Nat) (y':Ep),i < i'→i' < k→a[i']?=some x'→b[j']?=some y'→x'.1≠y'.1)∧m=min (tb a i ae) (tb b j be)
def Jv(a b:List Ep)(ae be:Int)(k:Nat)(x:Ep)(m0:Int)(j:Nat)(m:Int):Prop :=
 ((∀ (q:Nat) (y:Ep),q < j→b[q]?=some y→x.1≠y.1)∧m=m0)∨∃ (q:Nat) (y:Ep),q < j∧b[q]?=some y∧x.1=y.1∧m=min (tb a k ae) (tb b q be)
theorem wt{a b:List Ep}{ae be m0 m:Int}{k:Nat}{x:Ep}(hx:a[k]?=some x)(hp:zH a b ae be k m0)(hr:Jv a b ae be k x m0 b.length m):zH a b ae be (k+1) m:=by
 rcases hr with⟨h1,rfl⟩ | ⟨q,y,hq,hy,hxy,rfl⟩
 ·have hrow:∀ (j:Nat) (y:Ep),b[j]?=some y→x.1≠y.1:=fun j y hy=>h1 j y (List.getElem?_eq_some_iff.1 hy).1 hy
  rcases hp with⟨h2,h3⟩ | ⟨i,x',j,y,hi,hx',hy,hxy,h4,h5⟩
  ·refine .inl ⟨fun i x' j y hi hx' hy=>?_,h3⟩;by_cases hik:i=k
   ·subst hik;rw[hx]at hx';cases hx';exact hrow j y hy
   ·exact h2 i x' j y (by omega) hx' hy
  ·refine .inr ⟨i,x',j,y,by omega,hx',hy,hxy,fun i' x'' j' y' h6 h7 hx'' hy'=>?_,h5⟩;by_cases hik:i'=k
   ·subst hik;rw[hx]at hx'';cases hx'';exact hrow j' y' hy'
   ·exact h4 i' x'' j' y' h6 (by omega) hx'' hy'
 ·exact .inr ⟨k,x,q,y,by omega,hx,hy,hxy,fun i' x' j' y' h1 h2=>absurd h1 (by omega),rfl⟩
theorem zh{a b:List Ep}{ae be m:Int}(ha:gP a=0)(hb:gP b=0)(hp:zH a b ae be a.length m):lY a b ae be m:=by
 refine .inr ⟨ha,hb,?_⟩;rcases hp with⟨h2,h3⟩ | ⟨i,x',j,y,hi,hx',hy,hxy,h4,h5⟩
 ·exact .inl ⟨fun i x j y hx hy=>h2 i x j y (List.getElem?_eq_some_iff.1 hx).1 hx hy,h3⟩
 ·exact .inr ⟨i,x',j,y,hx',hy,hxy,fun i' x' k' y' h6 hx' hy'=>h4 i' x' k' y' h6 (List.getElem?_eq_some_iff.1 hx').1 hx' hy',h5⟩
theorem xo(a b:List Ep)(ae be:Int)(va vb:Value)(G:Ks)(ha:SEp G va a)(hb:SEp G vb b):
  FnE Tryz.prog 146 #[va,.int .i64 ae,vb,.int .i64 be] G (fun r=>∃ m,r=.int .i64 m∧lY a b ae be m):=by
 refine F146.fnE (by simp) (dY ?_);have ha0:=ha;have hb0:=hb;obtain⟨A,c,rfl,hc,hm,hA⟩:=ha;obtain⟨B,d,rfl,hd,hmd,hB⟩:=hb;unfold c146;intros;refine gR 0 0 c146r0.eq_1 ?_;intros;refine gR 14 21 c146r1.eq_1 ?_;refine(kW _ _ _ ha0 _ _).mono ?_;rintro v h' ⟨rfl,rfl⟩;refine sI ?_;refine gd (fun h1=>?_) (fun h1=>?_)
 ·refine sI ?_;intros;refine gC ?_;intros;refine gR 0 0 c146r2.eq_1 ?_;intros;refine rW ?_;exact⟨0,rfl,.inl ⟨.inl (by simpa using h1),rfl⟩⟩
 refine sI ?_;refine(kW _ _ _ hb0 _ _).mono ?_;rintro v h' ⟨rfl,rfl⟩;refine sI ?_;intros;refine gC ?_;refine gb (fun h2=>?_) (fun h2=>?_)
 ·intros;refine gR 0 0 c146r2.eq_1 ?_;intros;refine rW ?_;exact⟨0,rfl,.inl ⟨.inr (by simpa using h2),rfl⟩⟩
 have hca:gP a=0:=by simpa using h1
 have hcb:gP b=0:=by simpa using h2
 intros;refine gR 0 0 c146r3.eq_1 ?_;intros;refine gR 0 0 c146r4.eq_1 ?_;intros;refine dT ?_;refine ej (fun e h=>∃ (k:Nat) (m:Int),(k≤a.length∧zH a b ae be k m)∧e 24=.int .i64 k∧e 23=.int .i64 a.length∧e 22=.slice A a.length c∧e 0=.slice A a.length c∧e 1=.int .i64 ae∧e 2=.slice B b.length d∧e 3=.int .i64 be∧e 9=.int .i64 m∧h.G=G∧h.D=[]) (fun e h=>a.length - iv (e 24)) ?_ ?_
 ·exact⟨0,0,⟨Nat.zero_le _,.inl ⟨fun i x j y h=>absurd h (by omega),rfl⟩⟩,eE,eE,eE,eE,eE,eE,eE,eE,rfl,rfl⟩
 ·rintro e ⟨G',L,D⟩ ⟨k,m,⟨hk,hp⟩,e24,e23,e22,e0,e1,e2,e3,e9,hG,hD⟩;dsimp only at hG hD;subst hG hD;refine dU (h':=⟨G',[],[]⟩) (dX KL) ?_;refine dV [0,1,2,3,9,22,23,24] ?_
  (try simp -implicitDefEqProofs only[mg,mf,push_cast,Nat.reduceBEq,Nat.reduceAdd,Nat.reduceSub,Nat.reduceMul,Nat.reduceLT,Nat.reduceLeDiff,Nat.reduceEqDiff,reduceIte,Bool.not_true,Bool.not_false,true_and,and_true,Option.map_some,Option.bind_some,Int.toNat_natCast,e0,e1,e2,e3,e9,e22,e23,e24])
  intros;refine gR 0 0 c146r5.eq_1 ?_;intros;refine gC ?_;refine gb (fun ht=>?_) (fun ht=>?_)
  ·have hkl:k < a.length:=by simpa using ht
   have hw3:=eW k c (by omega) hm;obtain⟨x,hx⟩:∃ x,a[k]?=some x:=⟨a[k],getElem?_eq_getElem (by omega)⟩;intros;refine gR 26 29 c146r6.eq_1 ?_;refine hA.x_ld hx rfl rfl ?_;rintro a1 ha1 cs ⟨rfl,i1,i2⟩;refine sI ?_;intros;refine gR 0 0 c146r7.eq_1 ?_;intros;refine dT ?_
   refine ej (fun e h=>∃ (j:Nat) (m':Int),(j≤b.length∧Jv a b ae be k x m j m')∧(e 31=.int .i64 j∧e 30=.int .i64 b.length∧e 29=.slice B b.length d∧e 10=.int .i64 k)∧e 24=.int .i64 k∧e 23=.int .i64 a.length∧e 22=.slice A a.length c∧e 0=.slice A a.length c∧e 1=.int .i64 ae∧e 2=.slice B b.length d∧e 3=.int .i64 be∧e 9=.int .i64 m'∧h.G=G'∧h.D=[]∧[Item.reg 11 [.int .i64 x.1,.int .i64 x.2]].Sublist h.L) (fun e h=>b.length - iv (e 31)) ?_ ?_
   ·exact⟨0,m,⟨Nat.zero_le _,.inl ⟨fun q y h=>absurd h (by omega),rfl⟩⟩,⟨eE,eE,eE,eE⟩,eE,eE,eE,eE,eE,eE,eE,eE,rfl,rfl,List.Sublist.refl _⟩
   ·rintro e ⟨G2,L,D⟩ ⟨j,m',⟨hj,hr⟩,⟨e31,e30,e29,e10⟩,e24,e23,e22,e0,e1,e2,e3,e9,hG,hD,hL⟩;dsimp only at hG hD hL;subst hG hD;refine dU (dX hL) ?_;refine dV [0,1,2,3,9,10,22,23,24,29,30,31] ?_
    (try simp -implicitDefEqProofs only[mg,mf,push_cast,Nat.reduceBEq,Nat.reduceAdd,Nat.reduceSub,Nat.reduceMul,Nat.reduceLT,Nat.reduceLeDiff,Nat.reduceEqDiff,reduceIte,Bool.not_true,Bool.not_false,true_and,and_true,Option.map_some,Option.bind_some,Int.toNat_natCast,e0,e1,e2,e3,e9,e10,e22,e23,e24,e29,e30,e31])
    intros;refine gR 0 0 c146r8.eq_1 ?_;intros;refine gC ?_;refine gb (fun ht2=>?_) (fun ht2=>?_)
    ·have hjl:j < b.length:=by simpa using ht2
     have hw4:=eW j d (by omega) hmd;obtain⟨y,hy⟩:∃ y,b[j]?=some y:=⟨b[j],getElem?_eq_getElem (by omega)⟩;intros;refine gR 33 36 c146r9.eq_1 ?_;refine hB.x_ld hy rfl rfl ?_;rintro a2 ha2 cs ⟨rfl,j1,j2⟩;refine sI ?_;intros;refine gR 37 40 c146r10.eq_1 ?_;intros;refine gC ?_;refine gb (fun h3=>?_) (fun h3=>?_)
     ·have hxy:x.1=y.1:=by simpa using h3
      intros;refine gR 41 50 c146r11.eq_1 ?_;refine(t8 a k ae _ _ ha0 hkl _ _).mono ?_;rintro v h' ⟨rfl,rfl⟩;refine sI ?_;refine(t8 b j be _ _ hb0 hjl _ _).mono ?_;rintro v h' ⟨rfl,rfl⟩;refine sI ?_;intros;refine gR2 50 51 c146r12.eq_1 @hw4 ?_;intros;refine dT ?_
      refine eF ⟨⟨j+1,min (tb a k ae) (tb b j be),⟨by omega,.inr ⟨j,y,by omega,hy,hxy,rfl⟩⟩,⟨eE,eE,eE,eE⟩,eE,eE,eE,eE,eE,eE,eE,?_,rfl,rfl,.cons _ KJ⟩,?_⟩
      ·refine sI ?_;unfold tb;congr 1
      ·refine sI ?_;omega
     ·have hxy:¬ x.1=y.1:=by simpa using h3
      intros;refine gR2 50 51 c146r12.eq_1 @hw4 ?_;intros;refine dT ?_;refine eF ⟨⟨j+1,m',⟨by omega,?_⟩,⟨eE,eE,eE,eE⟩,eE,eE,eE,eE,eE,eE,eE,eE,rfl,rfl,.cons _ KJ⟩,?_⟩
      ·rcases hr with⟨h4,h5⟩ | ⟨q,z,h4,h5,h6,h7⟩
       ·refine .inl ⟨fun q z hq hz=>?_,h5⟩;by_cases hqj:q=j
        ·subst hqj;rw[hy]at hz;cases hz;exact hxy
        ·exact h4 q z (by omega) hz
       ·exact .inr ⟨q,z,by omega,h5,h6,h7⟩
      ·refine sI ?_;omega
    ·have hjl:j=b.length:=by simp at ht2;omega
     subst hjl;refine eg ?_;refine sI ?_;intros;refine gR2 51 52 c146r13.eq_1 @hw3 ?_;intros;refine dT ?_;refine eF ⟨⟨k+1,m',⟨by omega,wt hx hp hr⟩,eE,eE,eE,eE,eE,eE,eE,eE,rfl,rfl⟩,?_⟩;refine sI ?_;omega
  ·have hkl:k=a.length:=by simp at ht;omega
   subst hkl;refine eg ?_;refine sI ?_;intros;refine gR 52 53 c146r14.eq_1 ?_;intros;refine rW ?_;exact⟨m,rfl,zh hca hcb hp⟩
theorem F50:Fun Tryz.prog 50 9 v50 c50 o50:=Fun.mkA Tryz.func50 Tryz.ntmps50
theorem F52:Fun Tryz.prog 52 22 v52 c52 o52:=Fun.mkA Tryz.func52 Tryz.ntmps52
theorem F60:Fun Tryz.prog 60 49 v60 c60 o60:=Fun.mkA Tryz.func60 Tryz.ntmps60
theorem Bg(n:Int)(G:Ks):FnS Tryz.prog 50 #[.int .i64 n] G (.bool (idI n)):=by
 refine F50.fnS (by simp) (dY ?_);unfold c50;intros;refine gR 0 0 c50r0.eq_1 ?_;intros;refine gR 3 9 c50r1.eq_1 ?_;refine gdD (fun h=>?_) (fun h=>?_)
 ·refine sI ?_;intros;refine rW ?_;rw[idI,decide_eq_true (show 0≤n from h),Bool.true_and]
 ·refine sI ?_;intros;refine rW ?_;rw[idI,decide_eq_false (show ¬ 0≤n from h),Bool.false_and]
def fdR(l:List Rp)(n:Int):Int:=match atR l n with
 | some k=>(k:Int)
 | none=>-1
theorem BP:∀ {l:List Rp} {k:Nat} {r:Rp} {n:Int},(∀ x∈l.take k,x.id≠n)→l[k]?=some r→r.id=n→atR l n=some k
 | x :: l,0,r,n,_,hr,hid=>by
  cases hr;rw[atR,if_pos hid]
 | x :: l,k+1,r,n,h,hr,hid=>by
  rw[atR,if_neg (h x (.head _)),BP (l:=l) (k:=k) (fun y hy=>h y (.tail _ hy)) hr hid];rfl
theorem xP:∀ {l:List Rp} {n:Int},(∀ x∈l,x.id≠n)→atR l n=none
 | [],_,_=>rfl
 | x :: l,n,h=>by
  rw[atR,if_neg (h x (.head _)),xP fun y hy=>h y (.tail _ hy)];rfl
theorem lr{l:List Rp}{n:Int}:fdR l n < 0↔n∉gj l:=by
 unfold fdR;cases h:atR l n with
 | none =>
  refine⟨fun _ hm=>?_,fun _=>by show(-1:Int) < 0;decide⟩;obtain⟨k,r,h1,-⟩:=lb hm;rw[h]at h1;cases h1
 | some k =>
  obtain⟨r,h1,h2⟩:=ij h;refine⟨fun h=>by have h:(k:Int) < 0:=h;omega,fun hn=>absurd (List.mem_map.2 ⟨r,mem_of_getElem? h1,h2⟩) hn⟩
theorem kL(p:Pt)(n:Int)(cs:Kt)(G:Ks)(hp:PE G p cs):FnS Tryz.prog 52 #[.agg cs.toArray,.int .i64 n] G (.int .i64 (fdR p.reps n)):=by
 obtain⟨A,c,B,d,rfl,hv1,⟨A0,c0,he,hc,hm,hB⟩,hI⟩:=hp;cases he;refine F52.fnS (by simp) (dY ?_);unfold c52 eB;intros;refine gR 0 0 c52r0.eq_1 ?_;intros;refine dT ?_;intros;refine gR 0 0 c52r1.eq_1 ?_;intros;refine dT ?_
 refine ej (fun e h=>∃ k:Nat,(k≤p.reps.length∧∀ x∈p.reps.take k,x.id≠n)∧e 5=.int .i64 k∧e 1=.int .i64 n∧h=⟨G,[.reg 2 [.int .i64 p.epoch,.int .i64 p.leader,.int .i64 p.least,.slice A p.isr.length c,.slice B p.reps.length d]],[]⟩) (fun e h=>p.reps.length - iv (e 5)) ?_ ?_
 ·exact⟨0,⟨Nat.zero_le _,by simp⟩,eE,eE,rfl⟩
 rintro e h ⟨k,⟨hk,hall⟩,e5,e1,rfl⟩;refine dV [5,1] ?_;refine sJ2 @e5 @e1 ?_;intros;refine gR 6 10 c52r2.eq_1 ?_;intros;refine gC ?_;refine gb (fun k1=>?_) (fun k1=>?_)
 ·have k1:k < p.reps.length:=by have:=KM k1;omega
  have hw:=eW k d (by omega) hm;obtain⟨x,hx⟩:∃ s,p.reps[k]?=some s:=⟨p.reps[k],getElem?_eq_getElem (by omega)⟩;intros;refine gN ?_;intros;refine gR 14 20 c52r3.eq_1 ?_;refine hB.x_lf (k:=k) (u:=.int .i64 x.id) hx rfl rfl (fun cs h=>by obtain⟨_,_,_,_,rfl,-⟩:=h;rfl) fun a1 ha1=>?_
  refine sI ?_;intros;refine gC ?_;refine gbD (fun k2=>?_) (fun k2=>?_)
  ·intros;refine gR 21 22 c52r4.eq_1 ?_;intros;refine rW ?_;rw[fdR,BP hall hx k2]
  ·intros;refine gN ?_;intros;refine gR2 11 13 c52r5.eq_1 @hw ?_;intros;refine dT ?_;refine eF ⟨⟨k+1,⟨by omega,fun y hy=>?_⟩,eE,eE,rfl⟩,?_⟩
   ·rw[eR hx]at hy;rcases List.mem_append.1 hy with h | h
    ·exact hall y h
    ·simp at h;rw[h];exact k2
   ·refine sI ?_;omega
 ·have k1:k=p.reps.length:=by have:=KN k1;omega
  subst k1;rw[take_length]at hall;intros;refine gN ?_;refine eg ?_;refine sI ?_;intros;refine gR 0 0 c52r6.eq_1 ?_;intros;refine rW ?_;rw[fdR,xP hall]
theorem Fu(r:Rp)(cs:Kt)(G:Ks)(hr:RE G r cs)(hsm:smR r):FnD Tryz.prog 60 #[.agg cs.toArray] G (fun _ v=>v=.bool (dB (okR r))):=by
 have hr0:=hr;obtain⟨hb,hm,he⟩:=hsm;obtain⟨A,c,B,d,rfl,h1,h2,⟨h3,h4⟩,h5,h6⟩:=hr;have hl:LE G r.log (eG r.log A c):=⟨A,c,rfl,h1,h3,h4⟩;have hchk:=lV r.log _ G hl;have hrec:=xW r.log _ G hl hb hm;have hend:=jP r.log _ G hl hb;have hcE:=kW r.eps _ G h2;refine F60.fnD (by simp) (dY ?_);unfold c60;unfold fk;unfold eG at hchk hrec hend
 have hno:∀ (fr:KA) (e:Env) (L:Kv),¬ okR r→go none Tryz.prog 49 v60.1 v60.2 (fI o60 fun v h=>v=.bool (dB (okR r))) (Td.s ((SC.reg false c60r2).seq .ret) :: fr) e ⟨G,L,[]⟩:=fun fr e L hn=>by
  intros;refine gR 0 0 c60r2.eq_1 ?_;intros;refine rW ?_;rw[Et hn]
 intros;refine gR 0 0 c60r0.eq_1 ?_;intros;refine gR 6 24 c60r1.eq_1 ?_;refine fK (Bg r.id _ _ _) ?_;refine gd (fun k1=>?_) (fun k1=>?_)
 ·have k1:idI r.id=false:=by simpa using k1
  refine sI ?_;intros;refine gC ?_;exact hno _ _ _ fun h=>by have:=h.1.1;rw[k1]at this;cases this
 have k1:idI r.id=true:=by simpa using k1
 refine sI ?_;refine fK (hcE _ _) ?_;refine gd (fun k2=>?_) (fun k2=>?_)
 ·have k2:=KM k2;refine sI ?_;intros;refine gC ?_;exact hno _ _ _ fun h=>k2 h.1.2.1
 have k2:gP r.eps=0:=by simpa using k2
 refine sI ?_;refine gdD (fun k3=>?_) (fun k3=>?_)
 ·refine sI ?_;intros;refine gC ?_;exact hno _ _ _ fun h=>by have:=h.1.2.2.1;omega
 refine sI ?_;intros;refine gC ?_;refine gbD (fun k4=>?_) (fun k4=>?_)
 ·exact hno _ _ _ fun h=>by have:=h.1.2.2.2;omega
 intros;refine gN ?_;intros;refine gR 26 27 c60r3.eq_1 ?_;intros;refine gC ?_;refine gb (fun k5=>?_) (fun k5=>?_)
 ·have k5:r.up=false:=by simpa using k5
  have hlr:n7 r=(iQ r.log).1:=by rw[n7,if_neg (by rw[k5];simp)]
  have hiff:okR r↔fS (n7 r)=0:=⟨fun h=>h.2.1,fun h=>⟨⟨k1,k2,by omega,by omega⟩,h,fun h=>by rw[k5]at h;cases h⟩⟩;intros;refine gR 28 34 c60r4.eq_1 ?_;refine(hrec _ _).mono ?_;rintro v h' ⟨G1,rfl,hg1,cs,rfl,hle⟩;have hchk1:=lV _ _ G1 hle;rw[← hlr]at hchk1 hle;obtain⟨A1,c1,rfl,-⟩:=hle;unfold eG at hchk1 ⊢;refine sI ?_;intros;refine gR 34 37 c60r5.eq_1 ?_;refine fK (hchk1 _ _) ?_;intros;refine rW ?_
  by_cases k6:fS (n7 r)=0
  ·rw[Fe (hiff.2 k6),k6];rfl
  ·rw[Et fun h=>k6 (hiff.1 h),decide_eq_false k6]
 have k5:r.up=true:=by simpa using k5
 have hlr:n7 r=r.log:=by rw[n7,if_pos k5]
 have hiff:okR r↔(fS r.log=0∧r.high≤fg r.log):=⟨fun h=>⟨by rw[← hlr];exact h.2.1,h.2.2 k5⟩,fun h=>⟨⟨k1,k2,by omega,by omega⟩,by rw[hlr];exact h.1,fun _=>h.2⟩⟩;intros;refine gN ?_;intros;refine dT ?_;refine lk _ KJ (by decide) ?_;refine sJ c60r6.eq_1 ?_;refine fK (hchk _ _) ?_;refine gxD (fun k6=>?_) (fun k6=>?_)
 ·refine sI ?_;refine fK (hend _ _) ?_;intros;refine rW ?_;by_cases k7:r.high≤fg r.log
  ·rw[Fe (hiff.2 ⟨k6,k7⟩),decide_eq_true k7]
  ·rw[Et fun h=>k7 (hiff.1 h).2,decide_eq_false k7]
 ·refine sI ?_;intros;refine rW ?_;rw[Et fun h=>k6 (hiff.1 h).1]
def GT(l:List Rp)(k:Nat):Prop:=∀ i x,i < k→l[i]?=some x→okR x∧∀ q,0 < i→l[i - 1]?=some q→q.id < x.id
theorem ui{l:List Rp}:(GT l l.length∧l≠[])↔((∀ r∈l,okR r)∧gE (gj l)):=by
 rw[← l6];constructor
 ·rintro⟨h,h0⟩;refine⟨fun r hr=>?_,fun i x hi hx=>?_,fun e=>h0 (List.map_eq_nil_iff.1 e)⟩
  ·obtain⟨i,hi⟩:=List.mem_iff_getElem?.1 hr;exact(h i r (List.getElem?_eq_some_iff.1 hi).1 hi).1
  ·rw[gj,List.getElem?_map]at hx;obtain⟨r,hr,rfl⟩:=Option.map_eq_some_iff.1 hx;obtain⟨h1,h2⟩:=h i r (List.getElem?_eq_some_iff.1 hr).1 hr;refine⟨h1.1.1,fun p h3 hp=>?_⟩;rw[gj,List.getElem?_map]at hp;obtain⟨q,hq,rfl⟩:=Option.map_eq_some_iff.1 hp;exact h2 q h3 hq
 ·rintro⟨h1,h2,h0⟩;refine⟨fun i x hi hx=>⟨h1 x (mem_of_getElem? hx),fun q h3 hq=>?_⟩,fun e=>h0 (by rw[e];rfl)⟩;exact(h2 i x.id (by rw[gj,List.length_map];exact hi) (by rw[gj,List.getElem?_map,hx];rfl)).2 q.id h3 (by rw[gj,List.getElem?_map,hq];rfl)
theorem F19:Fun Tryz.prog 19 133 v19 c19 o19:=Fun.mkA Tryz.func19 Tryz.ntmps19
theorem tg(p:Pt)(cs:Kt)(G:Ks)(hp:PE G p cs)(hsm:smP p):FnD Tryz.prog 19 #[.agg cs.toArray] G (fun _ v=>v=.int .i64 (fA p)):=by
 have hp0:=hp;obtain⟨A,c,B,d,rfl,⟨A0,c0,he,hc,hm,hA⟩,⟨B0,d0,he2,hd,hmd,hB⟩,hI⟩:=hp;cases he;cases he2;refine F19.fnD (by simp) (dY ?_);unfold c19;unfold eB at hp0 ⊢;have hno:∀ (fr:KA) (e:Env) (h:H),¬ okP p→go none Tryz.prog 133 v19.1 v19.2 (fI o19 fun v h=>v=.int .i64 (fA p)) (Td.s ((SC.reg false c19r2).seq .ret) :: fr) e h:=fun fr e h hn=>by
  intros;refine gR 0 0 c19r2.eq_1 ?_;intros;refine rW ?_;rw[jk (hn)]
 intros;refine gR 0 0 c19r0.eq_1 ?_;intros;refine gR 7 40 c19r1.eq_1 ?_;refine fK (Bg _ _ _ _) ?_;refine gd (fun k1=>?_) (fun k1=>?_)
 ·have k1:idI p.epoch=false:=by simpa using k1
  refine sI ?_;intros;refine gC ?_;exact hno _ _ _ fun h=>by rw[h.1.1]at k1;cases k1
 have k1:idI p.epoch=true:=by simpa using k1
 refine sI ?_;refine gdD (fun k2=>?_) (fun k2=>?_)
 ·refine sI ?_;intros;refine gC ?_;exact hno _ _ _ fun h=>h.1.2.1.1 (by have:p.reps=[]:=List.eq_nil_of_length_eq_zero (by omega);rw[this];rfl)
 refine sI ?_;refine gdD (fun k3=>?_) (fun k3=>?_)
 ·refine sI ?_;intros;refine gC ?_;exact hno _ _ _ fun h=>by have:=h.1.2.2.1;omega
 refine sI ?_;refine gdD (fun k4=>?_) (fun k4=>?_)
 ·refine sI ?_;intros;refine gC ?_;exact hno _ _ _ fun h=>by have:=h.1.2.2.2.1;omega
 refine sI ?_;refine gdD (fun k5=>?_) (fun k5=>?_)
 ·refine sI ?_;intros;refine gC ?_;exact hno _ _ _ fun h=>by have:=h.1.2.2.2.1;omega
 refine sI ?_;intros;refine gC ?_;refine gb (fun k6=>?_) (fun k6=>?_)
 ·have k6:=KM k6;exact hno _ _ _ fun h=>h.2.1.1.1 (List.eq_nil_of_length_eq_zero (by omega))
 have k6:p.isr≠[]:=fun h=>by have:=KN k6;rw[h]at this;exact this rfl
 have hne:p.reps≠[]:=fun h=>by rw[h]at k2;simp at k2
 clear hno;intros;refine gN ?_;intros;try refine ed ?_
 refine eL (fun e h=>∃ G',Gle G G'∧GT p.reps p.reps.length∧h=⟨G',[.reg 1 [.int .i64 p.epoch,.int .i64 p.leader,.int .i64 p.least,.slice A p.isr.length c,.slice B p.reps.length d]],[]⟩) ?_ ?_
 ·intros;try refine ed ?_
  intros;refine gR 0 0 c19r3.eq_1 ?_;intros;refine dT ?_;refine ej (fun e h=>∃ (k:Nat) (G':Ks),(k≤p.reps.length∧GT p.reps k)∧Gle G G'∧e 3=.int .i64 k∧h=⟨G',[.reg 1 [.int .i64 p.epoch,.int .i64 p.leader,.int .i64 p.least,.slice A p.isr.length c,.slice B p.reps.length d]],[]⟩) (fun e h=>p.reps.length - iv (e 3)) ?_ ?_
  ·exact⟨0,G,⟨Nat.zero_le _,fun i x hi=>absurd hi (by omega)⟩,.refl _,eE,rfl⟩
  rintro e h ⟨k,G',⟨hk,hr⟩,hg,e3,rfl⟩;refine dV [3] ?_;refine sJ @e3 ?_;intros;refine gR 41 45 c19r4.eq_1 ?_;intros;refine gC ?_;refine gb (fun ht=>?_) (fun ht=>?_)
  ·have ht:k < p.reps.length:=by have:=KM ht;omega
   have hw:=eW k d (by omega) hmd;obtain⟨x,hx⟩:∃ s,p.reps[k]?=some s:=⟨p.reps[k],getElem?_eq_getElem (by omega)⟩;have hno:∀ (fr:KA) (e:Env) (h:H),¬ (okR x∧∀ q,0 < k→p.reps[k - 1]?=some q→q.id < x.id)→go none Tryz.prog 133 v19.1 v19.2 (fI o19 fun v h=>v=.int .i64 (fA p)) (Td.s ((SC.reg false c19r6).seq .ret) :: fr) e h:=fun fr e h hn=>by
    intros;refine gR 0 0 c19r6.eq_1 ?_;intros;refine rW ?_;rw[jk (fun h=>hn ((ui.2 ⟨h.1.2.2.2.2,h.1.2.1⟩).1 k x ht hx))]
   intros;refine gN ?_;intros;try refine ed ?_
   have hBg:=hB.le (E':=RE G') hg fun _ _ h=>RE.le hg h
   intros;refine dT ?_;refine lk _ KJ (by decide) ?_;refine sJ c19r5.eq_1 ?_;refine hBg.y_ld hx rfl rfl ?_;rintro a1 ha1 cs1 hre1;have hrp:=Fu x cs1 G' hre1 (hsm.1 x (mem_of_getElem? hx));obtain⟨A5,c5,B5,d5,rfl,-⟩:=hre1;unfold fk at hrp ⊢;refine sI ?_;refine(hrp _ _).mono ?_;rintro v h' ⟨G2,rfl,hg2,rfl⟩;refine⟨lQ hg2,?_⟩;refine sI ?_
   have hnx:okR x→(∀ q,0 < k→p.reps[k - 1]?=some q→q.id < x.id)→GT p.reps (k+1):=fun h1 h2 i y hi hy=>by
    by_cases hik:i=k
    ·subst hik;rw[hx]at hy;cases hy;exact⟨h1,h2⟩
    ·exact hr i y (by omega) hy
   refine gx (fun k1=>?_) (fun k1=>?_)
   ·have k1:¬ okR x:=fun h=>by rw[Fe h]at k1;cases k1
    refine sI ?_;intros;refine gC ?_;exact hno _ _ _ fun h=>k1 h.1
   have k1:okR x:=Bj.1 (by simpa using k1);refine sI ?_;refine gx (fun k2=>?_) (fun k2=>?_)
   ·have k2:0 < k:=by have:=KM k2;omega
    have hw1:IntKind.i64.wrap ((k:Int) - 1)=(k:Int) - 1:=by unfold maxLen at hmd;rw[ei] <;> omega
    obtain⟨q,hq⟩:∃ s,p.reps[k - 1]?=some s:=⟨p.reps[k - 1],getElem?_eq_getElem (by omega)⟩;refine sJ @hw1 ?_;refine hBg.y_lf (k:=k - 1) (u:=.int .i64 q.id) hq (by omega) rfl (fun cs h=>by obtain⟨_,_,_,_,rfl,-⟩:=h;rfl) fun a2 ha2=>?_
    refine sI ?_;refine hBg.y_lf (k:=k) (u:=.int .i64 x.id) hx rfl rfl (fun cs h=>by obtain⟨_,_,_,_,rfl,-⟩:=h;rfl) fun a3 ha3=>?_
    refine sI ?_;intros;refine gC ?_;refine gbD (fun k3=>?_) (fun k3=>?_)
    ·exact hno _ _ _ fun h=>by have:=h.2 q k2 hq;omega
    intros;refine gN ?_;intros;refine gR2 46 48 c19r7.eq_1 @hw ?_;intros;refine dT ?_;refine eF ⟨⟨k+1,G2,⟨by omega,hnx k1 fun q' _ hq'=>by rw[hq]at hq';cases hq';omega⟩,hg.trans hg2,eE,rfl⟩,?_⟩;refine sI ?_;omega
   ·have k2:k=0:=by have:=KN k2;omega
    refine sI ?_;intros;refine gC ?_;intros;refine gN ?_;intros;refine gR2 46 48 c19r7.eq_1 @hw ?_;intros;refine dT ?_;refine eF ⟨⟨k+1,G2,⟨by omega,hnx k1 fun q' h0 _=>absurd h0 (by omega)⟩,hg.trans hg2,eE,rfl⟩,?_⟩;refine sI ?_;omega
  ·have ht:k=p.reps.length:=by have:=KN ht;omega
   subst ht;intros;refine gN ?_;refine eg ?_;refine sI ?_;exact eF ⟨G',hg,hr,rfl⟩
 rintro e h ⟨G1,hg1,hrN,rfl⟩;refine dV [] ?_;intros;have hokr:=ui.1 ⟨hrN,hne⟩;have hp1:=hp0.le hg1;have hA:=hA.le (E':=IE) hg1 KO;have hB:=hB.le (E':=RE G1) hg1 fun _ _ h=>RE.le hg1 h
 intros;try refine ed ?_
 refine eL (fun e h=>(gE p.isr∧∀ n∈p.isr,n∈gj p.reps)∧h=⟨G1,[.reg 1 [.int .i64 p.epoch,.int .i64 p.leader,.int .i64 p.least,.slice A p.isr.length c,.slice B p.reps.length d]],[]⟩) ?_ ?_
 ·intros;try refine ed ?_
  intros;refine gR 0 0 c19r8.eq_1 ?_;intros;refine dT ?_;refine ej (fun e h=>∃ k:Nat,(k≤p.isr.length∧∀ i x,i < k→p.isr[i]?=some x→x∈gj p.reps∧∀ q,0 < i→p.isr[i - 1]?=some q→q < x)∧e 4=.int .i64 k∧h=⟨G1,[.reg 1 [.int .i64 p.epoch,.int .i64 p.leader,.int .i64 p.least,.slice A p.isr.length c,.slice B p.reps.length d]],[]⟩) (fun e h=>p.isr.length - iv (e 4)) ?_ ?_
  ·exact⟨0,⟨Nat.zero_le _,fun i x hi=>absurd hi (by omega)⟩,eE,rfl⟩
  rintro e h ⟨k,⟨hk,hr⟩,e4,rfl⟩;refine dV [4] ?_;refine sJ @e4 ?_;intros;refine gR 75 79 c19r9.eq_1 ?_;intros;refine gC ?_;refine gb (fun ht=>?_) (fun ht=>?_)
  ·have ht:k < p.isr.length:=by have:=KM ht;omega
   have hw:=eW k c (by omega) hm;obtain⟨x,hx⟩:∃ s,p.isr[k]?=some s:=⟨p.isr[k],getElem?_eq_getElem (by omega)⟩;have hno:∀ (fr:KA) (e:Env) (h:H),¬ (x∈gj p.reps∧∀ q,0 < k→p.isr[k - 1]?=some q→q < x)→go none Tryz.prog 133 v19.1 v19.2 (fI o19 fun v h=>v=.int .i64 (fA p)) (Td.s ((SC.reg false c19r11).seq .ret) :: fr) e h:=fun fr e h hn=>by
    intros;refine gR 0 0 c19r11.eq_1 ?_;intros;refine rW ?_;rw[jk (fun h=>hn ⟨h.2.1.2 x (mem_of_getElem? hx),((l6.2 h.2.1.1).1 k x ht hx).2⟩)]
   have hnx:x∈gj p.reps→(∀ q,0 < k→p.isr[k - 1]?=some q→q < x)→∀ i y,i < k+1→p.isr[i]?=some y→y∈gj p.reps∧∀ q,0 < i→p.isr[i - 1]?=some q→q < y:=fun h1 h2 i y hi hy=>by
    by_cases hik:i=k
    ·subst hik;rw[hx]at hy;cases hy;exact⟨h1,h2⟩
    ·exact hr i y (by omega) hy
   intros;refine gN ?_;intros;refine dT ?_;refine lk _ KJ (by decide) ?_;refine sJ c19r10.eq_1 ?_;refine hA.y_l1 hx rfl rfl ?_;rintro a1 ha1 u1 ⟨hu,-⟩;cases hu;refine sI ?_;refine fK (kL p x _ G1 hp1 _ _) ?_;refine gx (fun k1=>?_) (fun k1=>?_)
   ·have k1:=lr.1 (KM k1);refine sI ?_;intros;refine gC ?_;exact hno _ _ _ fun h=>k1 h.1
   have k1:x∈gj p.reps:=Decidable.byContradiction fun h=>KN k1 (lr.2 h)
   refine sI ?_;refine gx (fun k2=>?_) (fun k2=>?_)
   ·have k2:0 < k:=by have:=KM k2;omega
    have hw1:IntKind.i64.wrap ((k:Int) - 1)=(k:Int) - 1:=by unfold maxLen at hm;rw[ei] <;> omega
    obtain⟨q,hq⟩:∃ s,p.isr[k - 1]?=some s:=⟨p.isr[k - 1],getElem?_eq_getElem (by omega)⟩;refine sJ @hw1 ?_;refine hA.y_l1 hq (by omega) rfl ?_;rintro a2 ha2 u2 ⟨hu,-⟩;cases hu;refine sI ?_;refine hA.y_l1 hx rfl rfl ?_;rintro a3 ha3 u3 ⟨hu,-⟩;cases hu;refine sI ?_;intros;refine gC ?_;refine gbD (fun k3=>?_) (fun k3=>?_)
    ·exact hno _ _ _ fun h=>by have:=h.2 q k2 hq;omega
    intros;refine gN ?_;intros;refine gR2 80 82 c19r12.eq_1 @hw ?_;intros;refine dT ?_;refine eF ⟨⟨k+1,⟨by omega,hnx k1 fun q' _ hq'=>by rw[hq]at hq';cases hq';omega⟩,eE,rfl⟩,?_⟩;refine sI ?_;omega
   ·have k2:k=0:=by have:=KN k2;omega
    refine sI ?_;intros;refine gC ?_;intros;refine gN ?_;intros;refine gR2 80 82 c19r12.eq_1 @hw ?_;intros;refine dT ?_;refine eF ⟨⟨k+1,⟨by omega,hnx k1 fun q' h0 _=>absurd h0 (by omega)⟩,eE,rfl⟩,?_⟩;refine sI ?_;omega
  ·have ht:k=p.isr.length:=by have:=KN ht;omega
   subst ht;intros;refine gN ?_;refine eg ?_;refine sI ?_;refine eF ⟨⟨l6.1 ⟨fun i x hi hx=>⟨?_,(hr i x hi hx).2⟩,k6⟩,fun n hn=>?_⟩,rfl⟩
   ·obtain⟨r,hr2,rfl⟩:=List.mem_map.1 (hr i x hi hx).1;exact(hokr.1 r hr2).1.1
   ·obtain⟨i,hi⟩:=List.mem_iff_getElem?.1 hn;exact(hr i n (List.getElem?_eq_some_iff.1 hi).1 hi).1
 rintro e h ⟨hisr,rfl⟩;refine dV [] ?_;intros;have hyes:(p.leader=-1∨(∃ r∈p.reps,r.id=p.leader∧r.up=true)∧p.leader∈p.isr)→fA p=0:=fun h=>lD ⟨⟨k1,hokr.2,by omega,by omega,hokr.1⟩,hisr,h⟩
 intros;refine gR 109 110 c19r13.eq_1 ?_;intros;refine gC ?_;refine gbD (fun k7=>?_) (fun k7=>?_)
 ·intros;refine gR 0 0 c19r14.eq_1 ?_;intros;refine rW ?_;rw[hyes (.inl k7)]
 have hno:∀ (fr:KA) (e:Env) (h:H),¬ ((∃ r∈p.reps,r.id=p.leader∧r.up=true)∧p.leader∈p.isr)→go none Tryz.prog 133 v19.1 v19.2 (fI o19 fun v h=>v=.int .i64 (fA p)) (Td.s ((SC.reg false c19r17).seq .ret) :: fr) e h:=fun fr e h hn=>by
  intros;refine gR 0 0 c19r17.eq_1 ?_;intros;refine rW ?_;rw[jk (fun h=>by rcases h.2.2 with h | h;exact k7 h;exact hn h)]
 intros;refine gN ?_;intros;refine gR 111 115 c19r15.eq_1 ?_;refine fK (kL p p.leader _ G1 hp1 _ _) ?_;intros;refine gR 115 132 c19r16.eq_1 ?_;refine gd (fun k8=>?_) (fun k8=>?_)
 ·have k8:=lr.1 (KM k8);refine sI ?_;intros;refine gC ?_;exact hno _ _ _ fun h=>by obtain⟨⟨r,h1,h2,-⟩,-⟩:=h;exact k8 (List.mem_map.2 ⟨r,h1,h2⟩)
 have k8:p.leader∈gj p.reps:=Decidable.byContradiction fun h=>KN k8 (lr.2 h)
 obtain⟨j,r,hj,hr,hid⟩:=lb k8;have hfd:fdR p.reps p.leader=(j:Int):=by rw[fdR,hj]
 refine sI ?_;refine hB.x_lf (k:=j) (u:=.bool r.up) hr hfd rfl (fun cs h=>by obtain⟨_,_,_,_,rfl,-⟩:=h;rfl) fun a1 ha1=>?_
 refine sI ?_;refine gd (fun k9=>?_) (fun k9=>?_)
 ·have k9:r.up=false:=by simpa using k9
  refine sI ?_;intros;refine gC ?_;refine hno _ _ _ fun h=>?_
  obtain⟨⟨r',h1,h2,h3⟩,-⟩:=h;obtain⟨i,hi⟩:=List.mem_iff_getElem?.1 h1;have h4:=lK hokr.2.2.2 hi;rw[h2,hj]at h4;cases h4;rw[hr]at hi;cases hi;rw[k9]at h3;cases h3
 have k9:r.up=true:=by simpa using k9
 refine sI ?_;refine fK (vE p p.leader _ G1 hp1 _ _) ?_;intros;refine gC ?_;refine gb (fun k10=>?_) (fun k10=>?_)
 ·have k10:p.leader∉p.isr:=by simpa using k10
  exact hno _ _ _ fun h=>k10 h.2
 have k10:p.leader∈p.isr:=by simpa using k10
 intros;refine gN ?_;intros;refine gR 0 0 c19r18.eq_1 ?_;intros;refine rW ?_;rw[hyes (.inr ⟨⟨r,mem_of_getElem? hr,hid,k9⟩,k10⟩)]
theorem F16:Fun Tryz.prog 16 24 v16 c16 o16:=Fun.mkA Tryz.func16 Tryz.ntmps16
theorem AR(p:Pt)(cs:Kt)(G:Ks)(hp:PE G p cs)(hsm:smP p):FnD Tryz.prog 16 #[.agg cs.toArray] G (LgR (ji p)):=by
 have hchk:=tg p cs G hp hsm;have hp0:=hp;obtain⟨A,c,B,d,rfl,hv1,hv2,hI⟩:=hp;refine F16.fnD (by simp) (dY ?_);unfold c16;unfold eB at hp0 hchk ⊢;intros;refine gR 0 0 c16r0.eq_1 ?_;intros;refine gR 5 7 c16r1.eq_1 ?_;refine(hchk _ _).mono ?_;rintro v h' ⟨G1,rfl,hg1,rfl⟩;refine sI ?_;intros;refine gR 7 8 c16r2.eq_1 ?_;intros;refine gC ?_;refine gb (fun k1=>?_) (fun k1=>?_)
 ·have k1:=KM k1;intros;refine gR 9 11 c16r3.eq_1 ?_;intros;refine rW ?_;rw[ji,if_pos k1];exact gV
 have k1:fA p=0:=by simpa using k1
 have hok:=jt k1;intros;refine gN ?_;intros;refine gR 12 13 c16r4.eq_1 ?_;intros;refine gC ?_;refine gbD (fun k2=>?_) (fun k2=>?_)
 ·intros;refine gR 14 15 c16r5.eq_1 ?_;intros;refine rW ?_;rw[ji,if_neg (fun h=>h k1),if_pos k2];exact gV
 obtain⟨k,r,hk,hr,-⟩:=mM hok k2;have hld:ji p=(r.log,0):=by
  rw[ji,if_neg (fun h=>h k1),if_neg k2,hk];dsimp only;rw[hr];rfl
 have hfd:fdR p.reps p.leader=(k:Int):=by rw[fdR,hk]
 have hkl:=(List.getElem?_eq_some_iff.1 hr).1;rw[hld];intros;refine gN ?_;intros;refine dT ?_;refine Aq _ KJ (by decide) ?_;refine sJ c16r6.eq_1 ?_;refine fK (kL p p.leader _ G1 (hp0.le hg1) _ _) ?_;rw[hfd];refine sI ?_;refine JX (SlR.le hg1 hv2) hr rfl (by omega) rfl ?_;rintro a1 ha1 A1 c1 hle;have hle0:=hle;unfold eG at hle0 ⊢;refine sJ c16r7.eq_1 ?_;intros;refine rW ?_;exact⟨_,rfl,hle0⟩
theorem F94:Fun Tryz.prog 94 19 v94 c94 o94:=Fun.mkA Tryz.func94 Tryz.ntmps94
theorem F95:Fun Tryz.prog 95 27 v95 c95 o95:=Fun.mkA Tryz.func95 Tryz.ntmps95
theorem F92:Fun Tryz.prog 92 19 v92 c92 o92:=Fun.mkA Tryz.func92 Tryz.ntmps92
theorem F93:Fun Tryz.prog 93 45 v93 c93 o93:=Fun.mkA Tryz.func93 Tryz.ntmps93
def PtV(q:Pt)(G:Ks)(r:Value):Prop:=∃ cs,r=.agg cs.toArray∧PE G q cs
theorem nh(p:Pt)(k:Nat)(y:Rp)(cs ds:Kt)(G:Ks)(hp:PE G p cs)(hy:RE G y ds)(hk:k < p.reps.length)(hm:p.reps.length≤1000):
  FnD Tryz.prog 94 #[.agg cs.toArray,.int .i64 (k:Int),.agg ds.toArray] G (PtV (hO p k y)):=by
 obtain⟨A,c,B,d,rfl,hv1,hv2,hI⟩:=hp;obtain⟨A1,c1,B1,d1,rfl,-⟩:=id hy;have hlk:(p.reps.set k y).length=p.reps.length:=List.length_set;refine F94.fnD (by simp) (dY ?_);unfold c94 eB;intros;refine gR 0 0 c94r0.eq_1 ?_;intros;refine gR 8 12 c94r1.eq_1 ?_;intro bk hbk;refine j5 (.inr ⟨⟨_,rfl⟩,rfl,rfl,rfl,rfl⟩) hv2 rfl RE1 ⟨by omega,by unfold maxLen;omega⟩ fun ys A9 c9 hcs=>?_
 simp only[Nat.zero_add];refine sI ?_;have hnew:=hcs.set (k:=k) (x:=y) (cs:=fk y A1 c1 B1 d1) hk hy rfl;unfold fk at hnew ⊢;intros;intros;refine eI (iE (v:=.slice A9 p.reps.length c9) (.head _) (by omega)) ?_;rintro h' ⟨rfl,g,c8,hA9,-,-⟩;cases hA9;intros;refine gR 12 16 c94r2.eq_1 ?_;refine⟨by omega,_,rfl,?_⟩;rw[eV,Nat.zero_add]
 refine fG [] _ rfl (by have:=hcs.len;simp at this ⊢;omega) ⟨rfl,rfl⟩ ?_;refine sI ?_;intros;refine gR 16 17 c94r3.eq_1 ?_;intros;intros;refine eI (eh [] _ (by decide) hnew) ?_;rintro h' ⟨G5,rfl,hg5,hv5⟩;intros;refine gR 18 19 c94r4.eq_1 ?_;intros;refine rW ?_
 exact⟨_,rfl,A,c,some ⟨g,0,none⟩,c9,by simp only[eB,hO,hlk],hv1.le (E':=IE) hg5 KO,by show SlV G5 _ 7 (.slice _ (p.reps.set k y).length _) _;rw[hlk];exact hv5.le (.refl _) fun _ _ h=>RE.le hg5 h,hI⟩
noncomputable def tU(p:Pt)(n:Int):Int × Int:=if fA p≠0 then(-1,fA p)else if fdR p.reps n < 0 then(-1,1)else(fdR p.reps n,0)
theorem sK(p:Pt)(n:Int)(cs:Kt)(G:Ks)(hp:PE G p cs)(hsm:smP p):FnD Tryz.prog 92 #[.agg cs.toArray,.int .i64 n] G (fun _ v=>v=.tuple #[.int .i64 (tU p n).1,.int .i64 (tU p n).2]):=by
 have hchk:=tg p cs G hp hsm;have hp0:=hp;obtain⟨A,c,B,d,rfl,-⟩:=hp;refine F92.fnD (by simp) (dY ?_);unfold c92;unfold eB at hchk hp0 ⊢;intros;refine gR 0 0 c92r0.eq_1 ?_;intros;refine gR 8 10 c92r1.eq_1 ?_;refine(hchk _ _).mono ?_;rintro v h' ⟨G1,rfl,hg1,rfl⟩;refine sI ?_;intros;refine gR 10 11 c92r2.eq_1 ?_;intros;refine gC ?_;refine gb (fun k1=>?_) (fun k1=>?_)
 ·have k1:=KM k1;intros;refine gR 12 13 c92r3.eq_1 ?_;intros;refine rW ?_;rw[tU,if_pos k1]
 have k1:fA p=0:=by simpa using k1
 intros;refine gN ?_;intros;refine gR 13 16 c92r4.eq_1 ?_;refine fK (kL p n _ G1 (hp0.le hg1) _ _) ?_;intros;refine gR 16 17 c92r5.eq_1 ?_;intros;refine gC ?_;refine gbD (fun k2=>?_) (fun k2=>?_)
 ·intros;refine gR 0 0 c92r6.eq_1 ?_;intros;refine rW ?_;rw[tU,if_neg (fun h=>h k1),if_pos k2]
 intros;refine gN ?_;intros;refine gR 18 19 c92r7.eq_1 ?_;intros;refine rW ?_;rw[tU,if_neg (fun h=>h k1),if_neg k2]
theorem zL(l:KG)(n:Int)(v:Value)(G:Ks)(hl:SlV G IE 1 v l)(hm:l.length≤1000):FnD Tryz.prog 95 #[v,.int .i64 n] G (fun G' r=>SlV G' IE 1 r (l.filter fun m=>decide (m≠n))):=by
 obtain⟨A,c,rfl,hc,hmx,hA⟩:=hl;refine F95.fnD (by simp) (dY ?_);unfold c95;intros;refine gR 0 0 c95r0.eq_1 ?_;intros;refine gR 0 0 c95r1.eq_1 ?_;intros;refine gR 0 0 c95r2.eq_1 ?_;intros;refine dT ?_;refine dU (eA none 3 1) ?_
 refine ej (fun e h=>∃ (k:Nat) (u:Value) (zc:Kt) (Lh:Kv),(k≤l.length∧Cells IE 1 ((l.take k).filter fun m=>decide (m≠n)) zc)∧e 0=.slice A l.length c∧e 1=.int .i64 n∧e 5=u∧e 6=.int .i64 k∧h=⟨G,Lh,[]⟩∧[Kx.Item.row u 3 1 ((l.take k).filter fun m=>decide (m≠n)).length zc].Sublist Lh) (fun e h=>l.length - iv (e 6)) ?_ ?_
 ·exact⟨0,_,[],_,⟨Nat.zero_le _,.nil⟩,eE,eE,eE,eE,rfl,List.Sublist.refl _⟩
 rintro e h ⟨k,u,zc,Lh,⟨hk,hcs⟩,e0,e1,e5,e6,rfl,hsub⟩;refine dV [0,1,5,6] ?_;refine sJ4 @e0 @e1 @e5 @e6 ?_;intros;refine dU (dX hsub) ?_;intros;refine gR 7 10 c95r3.eq_1 ?_;intros;refine gC ?_;refine gb (fun k1=>?_) (fun k1=>?_)
 ·have k1:k < l.length:=by have:=KM k1;omega
  have hw:=eW k c (by omega) hmx;obtain⟨x,hx⟩:∃ s,l[k]?=some s:=⟨l[k],getElem?_eq_getElem (by omega)⟩;have hzl:((l.take k).filter fun m=>decide (m≠n)).length≤k:=Nat.le_trans (List.length_filter_le ..) (by simp;omega);have hnx:(l.take (k+1)).filter (fun m=>decide (m≠n))=(l.take k).filter (fun m=>decide (m≠n))++if x≠n then[x]else[]:=by
   rw[eR hx,List.filter_append,List.filter_cons];by_cases h:x=n
   ·rw[if_neg (by simp[h]),if_neg (fun hh=>hh h)];rfl
   ·rw[if_pos (by simp[h]),if_pos h];rfl
  generalize (l.take k).filter (fun m=>decide (m≠n))=zs at *;intros;refine gN ?_;intros;refine gR 13 18 c95r4.eq_1 ?_;refine hA.x_l1 hx rfl rfl ?_;rintro a1 ha1 u1 ⟨hu,hxi⟩;cases hu;refine sI ?_;intros;refine gC ?_;refine gb (fun k2=>?_) (fun k2=>?_)
  ·have k2:=KM k2;rw[if_pos k2]at hnx;intros;refine gR 19 26 c95r5.eq_1 ?_;refine hA.x_l1 hx rfl rfl ?_;rintro a2 ha2 u2 ⟨hu,-⟩;cases hu;refine sI ?_;intro bk hbk;refine CR (L1:=[]) (L2:=[]) (E:=IE) (x:=x) rfl ⟨rfl,hxi⟩ rfl (by simp[Value.oneCell']) hcs ⟨by omega,by unfold maxLen;omega⟩ fun A' c' zc' hzc'=>?_
   rw[← hnx]at hzc' ⊢;refine sI ?_;intros;refine gR2 11 13 c95r6.eq_1 @hw ?_;intros;refine dT ?_;refine eF ⟨⟨k+1,_,zc',_,⟨by omega,hzc'⟩,eE,eE,eE,eE,rfl,.cons _ KJ⟩,?_⟩;refine sI ?_;omega
  ·have k2:x=n:=by simpa using k2
   rw[if_neg (fun h=>h k2),append_nil]at hnx;rw[← hnx]at hcs ⊢;intros;refine gN ?_;intros;refine gR2 11 13 c95r6.eq_1 @hw ?_;intros;refine dT ?_;refine eF ⟨⟨k+1,u,zc,_,⟨by omega,hcs⟩,eE,eE,eE,eE,rfl,List.Sublist.refl _⟩,?_⟩;refine sI ?_;omega
 ·have k1:k=l.length:=by have:=KN k1;omega
  subst k1;rw[take_length]at hcs ⊢;refine eg ?_;refine sI ?_;intros;refine gN ?_;intros;refine eI (eh [] _ (by decide) hcs) ?_;rintro h' ⟨G1,rfl,hg1,hv1⟩;intros;refine gR 26 27 c95r7.eq_1 ?_;intros;refine rW ?_;exact hv1
theorem zx(l:Lg)(n:Int)(cl:Kt)(G:Ks)(hl:LE G l cl)(hne:l.segs≠[])(hm:l.segs.length≤1000)(hn:0≤n∧I64 n):FnD Tryz.prog 93 #[.agg cl.toArray,.int .i64 n] G (fun G' r=>∃ cs,r=.agg cs.toArray∧LE G' (m1 l n) cs):=by
 obtain⟨A,c,rfl,hsl,hi,hj⟩:=hl;have hsl0:=hsl;obtain⟨A0,c0,he,hc,hmx,hA⟩:=hsl;cases he;refine F93.fnD (by simp) (dY ?_);unfold c93 eG;intros;refine gR 0 0 c93r0.eq_1 ?_;intros;refine gR 9 12 c93r1.eq_1 ?_;have hn0:0 < l.segs.length:=List.length_pos_iff.2 hne;have hw1:IntKind.i64.wrap ((l.segs.length:Int) - 1)=((l.segs.length - 1:Nat):Int):=by rw[ei] <;> omega
 obtain⟨s,e1,e2,e3⟩:=jF hne;rw[hw1];intros;refine gR 12 16 c93r2.eq_1 ?_;intro bk hbk;refine j5 (.inr ⟨⟨_,rfl⟩,rfl,rfl,rfl,rfl⟩) hsl0 rfl SE1 ⟨by omega,by unfold maxLen;omega⟩ fun ys A9 c9 hcs=>?_
 simp only[Nat.zero_add];refine sI ?_;intros;intros;refine eI (iE (v:=.slice A9 l.segs.length c9) (.head _) (by omega)) ?_;rintro h' ⟨rfl,g,c8,hA9,-,-⟩;cases hA9;intros;refine gR 17 22 c93r3.eq_1 ?_;refine GY (k:=l.segs.length - 1) (Pu:=fun u=>∃ B d,u=.slice B s.bytes.length d∧SB G (.slice B s.bytes.length d) s.bytes) hA e1 rfl rfl (fun cs h=>by obtain⟨B,d,rfl,h1,-⟩:=h;exact⟨_,rfl,B,d,rfl,h1⟩) ?_
 rintro a2 ha2 u ⟨B2,d2,rfl,hsb⟩;refine sI ?_;have hml:s.bytes.length≤d2∧d2≤maxLen:=by
  obtain⟨_,_,he,h1,h2,_⟩:=hsb;cases he;exact⟨h1,h2⟩
 have hmx2:=hml.2;unfold maxLen at hmx2;have hwm:IntKind.i64.wrap ((s.bytes.length:Int) - min n (s.bytes.length:Int))=((s.bytes.length - (min n (s.bytes.length:Int)).toNat:Nat):Int):=by rw[ei] <;> omega
 have hm0:max 0 ((s.bytes.length - (min n (s.bytes.length:Int)).toNat:Nat):Int)=((s.bytes.length - (min n (s.bytes.length:Int)).toNat:Nat):Int):=by omega
 have htl:(m1 l n).segs=l.segs.set (l.segs.length - 1) ⟨s.base,s.bytes.take (s.bytes.length - (min n (s.bytes.length:Int)).toNat)⟩:=by
  have h3:yS l (l.segs.length - 1)=s:=by rw[yS,List.getD_eq_getElem?_getD,e1];rfl
  unfold m1;rw[h3];rfl
 have hmle:s.bytes.length - (min n (s.bytes.length:Int)).toNat≤s.bytes.length:=by omega
 generalize s.bytes.length - (min n (s.bytes.length:Int)).toNat=m at *;intros;refine dT ?_;refine EP (by decide) ?_;refine sJ c93r4.eq_1 ?_;refine hA.y_lf (k:=l.segs.length - 1) (u:=.int .i64 s.base) e1 rfl rfl (fun cs h=>by obtain⟨B,d,rfl,-⟩:=h;rfl) fun a3 ha3=>?_
 refine sJ2 @hwm @hm0 ?_;refine⟨by omega,by omega,_,rfl,?_⟩;have hcp:=SlV.pre m hsb hmle;have hlen2:(s.bytes.take m).length=m:=by rw[List.length_take];omega
 have hsi:I64 s.base:=by
  obtain⟨_,hE,-⟩:=hcs.get e1;obtain⟨_,_,_,_,h⟩:=hE;exact h
 have hnew:=hcs.set (k:=l.segs.length - 1) (x:=⟨s.base,s.bytes.take m⟩) (cs:=[.int .i64 s.base,.slice B2 m d2]) (by omega) ⟨B2,d2,by unfold gh;rw[hlen2],by show SlV _ _ _ (.slice B2 (s.bytes.take m).length d2) _;rw[hlen2];exact hcp,hsi⟩ rfl;have hlk:(l.segs.set (l.segs.length - 1) ⟨s.base,s.bytes.take m⟩:List Sg).length=l.segs.length:=List.length_set;rw[eV,Nat.zero_add];refine sJ c93r5.eq_1 ?_
 refine fG [] _ rfl (by have:=hcs.len;simp at this ⊢;omega) ⟨rfl,rfl⟩ ?_;refine sI ?_;intros;refine gR 42 43 c93r6.eq_1 ?_;intros;intros;refine eI (eh [] _ (by decide) hnew) ?_;rintro h' ⟨G5,rfl,hg5,hv5⟩;intros;refine gR 44 45 c93r7.eq_1 ?_;intros;refine rW ?_;refine⟨_,rfl,some ⟨g,0,none⟩,c9,?_,?_,hi,hj⟩
 ·unfold eG;rw[htl,hlk];rfl
 ·rw[htl,hlk];exact hv5.le (.refl _) fun _ _ h=>SE.le hg5 h
theorem F96:Fun Tryz.prog 96 71 v96 c96 o96:=Fun.mkA Tryz.func96 Tryz.ntmps96
theorem sZ{α:Type}{f:Int→α→Int}{P:α→Prop}{b:Int}(h:∀ m x,b≤f m x↔b≤m∧P x):∀ (l:List α) (m:Int),b≤l.foldl f m↔b≤m∧∀ x∈l,P x
 | [],m=>by simp
 | x :: l,m=>by
  rw[List.foldl_cons,sZ h l,h,and_assoc];simp
noncomputable def lsF(is:KG)(r:Rp)(m:Int)(x:Rp):Int:=if x.id≠r.id∧x.id∈is then min m (kh x r)else m
theorem rh{l:List Rp}{is:KG}{k:Nat}{r:Rp}(hid:nV l)(hin:∀ n∈is,n∈gj l)(hr:l[k]?=some r)(m:Int):fT l k r m is=l.foldl (lsF is r) m:=by
 have key:∀ b:Int,b≤fT l k r m is↔b≤l.foldl (lsF is r) m:=fun b=>by
  have h1:=sZ (f:=my l k r) (P:=fun n=>∀ i x,atR l n=some i→l[i]?=some x→i≠k→b≤kh x r) (b:=b) (fun m n=>by
   unfold my
   constructor
   ·intro h
    split at h
    ·rename_i i hi
     split at h
     ·rename_i he
      exact⟨h,fun j x hj hx hjk=>by rw[hi]at hj;cases hj;exact absurd he hjk⟩
     ·rename_i he
      obtain⟨y,hy,-⟩:=ij hi
      rw[hy]at h
      dsimp only at h
      exact⟨by omega,fun j x hj hx hjk=>by rw[hi]at hj;cases hj;rw[hy]at hx;cases hx;omega⟩
    ·rename_i hi
     exact⟨h,fun j x hj=>by rw[hi]at hj;cases hj⟩
   ·rintro⟨h,h2⟩
    split
    ·rename_i i hi
     split
     ·exact h
     ·rename_i he
      obtain⟨y,hy,-⟩:=ij hi
      rw[hy]
      dsimp only
      have:=h2 i y hi hy he
      omega
    ·exact h) is m
  have h2:=sZ (f:=lsF is r) (P:=fun x=>x.id≠r.id→x.id∈is→b≤kh x r) (b:=b) (fun m x=>by
   unfold lsF
   split
   ·rename_i h
    constructor
    ·intro h3;exact⟨by omega,fun _ _=>by omega⟩
    ·rintro⟨h3,h4⟩;have:=h4 h.1 h.2;omega
   ·rename_i h
    exact⟨fun h3=>⟨h3,fun h4 h5=>absurd ⟨h4,h5⟩ h⟩,fun h3=>h3.1⟩) l m
  unfold fT;rw[h1,h2];refine and_congr_right fun _=>⟨fun h x hx hne hi=>?_,fun h n hn i x hi hx hik=>?_⟩
  ·obtain⟨j,hj⟩:=List.mem_iff_getElem?.1 hx;have h3:=lK hid.1 hj;refine h x.id hi j x h3 hj fun he=>?_
   subst he;rw[hr]at hj;cases hj;exact hne rfl
  ·obtain⟨y,hy,hyn⟩:=ij hi;rw[hx]at hy;cases hy;refine h x (mem_of_getElem? hx) (fun he=>hik ?_) (by rw[hyn];exact hn);have h3:=lK hid.1 hx;have h4:=lK hid.1 hr;rw[he,h4]at h3;exact(Option.some.inj h3).symm
 exact Int.le_antisymm ((key _).1 (Int.le_refl _)) ((key _).2 (Int.le_refl _))
theorem Cs(a b:List Ep)(ae be:Int)(va vb:Value)(G:Ks)(ha:SEp G va a)(hb:SEp G vb b):
  FnS Tryz.prog 146 #[va,.int .i64 ae,vb,.int .i64 be] G (.int .i64 (mN a b ae be)):=fun L D=>(xo a b ae be va vb G ha hb L D).mono fun r h' ⟨⟨m,h1,h2⟩,h3⟩=>⟨by rw[h1,pf h2],h3⟩
theorem mz(p:Pt)(cs:Kt)(G:Ks)(hp:PE G p cs)(hid:nV p.reps)(hin:∀ n∈p.isr,n∈gj p.reps)(hsm:∀ r∈p.reps,smW r)(hm:p.reps.length≤1000):
  FnD Tryz.prog 96 #[.agg cs.toArray] G (PtV (eN p)):=by
 have hp0:=hp;obtain⟨A,c,B,d,rfl,hv1,hv2,hI⟩:=hp;refine F96.fnD (by simp) (dY ?_);unfold c96;unfold eB at hp0 ⊢;intros;refine gR 0 0 c96r0.eq_1 ?_;intros;refine gR 9 13 c96r1.eq_1 ?_;refine fK (kL p p.leader _ G hp0 _ _) ?_;intros;try refine ed ?_
 have hno:eN p=p→∀ (fr:KA) (e:Env),go none Tryz.prog 71 v96.1 v96.2 (fI o96 fun v h=>PtV (eN p) h.G v) (Td.s ((SC.reg false c96r3).seq .ret) :: fr) e ⟨G,[.reg 2 [.int .i64 0,.int .i64 0,.int .i64 0,.slice none 0 0,.slice none 0 0],.reg 1 [.int .i64 p.epoch,.int .i64 p.leader,.int .i64 p.least,.slice A p.isr.length c,.slice B p.reps.length d]],[]⟩:=fun hr fr e=>by
  intros;refine gR 20 21 c96r3.eq_1 ?_;intros;refine rW ?_;rw[hr];exact⟨_,rfl,hp0⟩
 intros;refine gR 14 19 c96r2.eq_1 ?_;refine gdD (fun k1=>?_) (fun k1=>?_)
 ·refine sI ?_;intros;refine gC ?_;exact hno (by unfold eN;rw[if_pos k1]) _ _
 refine sI ?_;intros;refine gC ?_;refine gbD (fun k2=>?_) (fun k2=>?_)
 ·refine hno ?_ _ _;unfold eN;rw[if_neg k1];cases hk:atR p.reps p.leader with
  | none=>rfl
  | some k=>rw[fdR,hk]at k2;exact absurd (show(k:Int) < 0 from k2) (by omega)
 clear hno;obtain⟨k,r,hk,hr,hrid⟩:=lb (l:=p.reps) (n:=p.leader) (Decidable.byContradiction fun h=>k2 (lr.2 h));have hfd:fdR p.reps p.leader=(k:Int):=by rw[fdR,hk]
 have hst:eN p=hO p k { r with high:=max r.high (p.reps.foldl (lsF p.isr r) (fg r.log)) }:=by
  rw[← rh hid hin hr];unfold eN;rw[if_neg k1,hk];dsimp only;rw[hr];rfl
 rw[hst,hfd];clear hst;have hkl:=(List.getElem?_eq_some_iff.1 hr).1;obtain⟨_,_,he,hd,hmd,hB⟩:=id hv2;cases he;have hsr:=hsm r (mem_of_getElem? hr);intros;refine gN ?_;intros;refine gR 22 26 c96r4.eq_1 ?_;refine hB.x_ld hr rfl rfl ?_;rintro a1 ha1 csr hre;have hre0:=hre;obtain⟨A1,c1,B1,d1,rfl,q1,q2,q3,q4⟩:=hre;unfold fk at hre0 ⊢;refine sI ?_;have hend:=jP r.log _ G ⟨A1,c1,rfl,q1,q3⟩ hsr.1
 unfold eG at hend;intros;refine gR 27 29 c96r5.eq_1 ?_;refine fK (hend _ _) ?_;have hei:=kw r.log;generalize hen:fg r.log=en at *;intros;refine gR 29 30 c96r6.eq_1 ?_;intros;refine gR 0 0 c96r7.eq_1 ?_;intros;refine dT ?_
 refine ej (fun e h=>∃ (t:Nat) (Lh:Kv),t≤p.reps.length∧e 3=.int .i64 k∧e 5=.int .i64 en∧e 6=.int .i64 ((p.reps.take t).foldl (lsF p.isr r) en)∧e 7=.int .i64 t∧h=⟨G,Lh,[]⟩∧([.reg 4 [.int .i64 r.id,.bool r.up,.int .i64 r.log.limit,.int .i64 r.log.start,.slice A1 r.log.segs.length c1,.slice B1 r.eps.length d1,.int .i64 r.high],.reg 2 [.int .i64 0,.int .i64 0,.int .i64 0,.slice none 0 0,.slice none 0 0],.reg 1 [.int .i64 p.epoch,.int .i64 p.leader,.int .i64 p.least,.slice A p.isr.length c,.slice B p.reps.length d]]:Kv).Sublist Lh) (fun e h=>p.reps.length - iv (e 7)) ?_ ?_
 ·exact⟨0,_,Nat.zero_le _,eE,eE,by(try simp -implicitDefEqProofs only[mg,mf,push_cast,Nat.reduceBEq,Nat.reduceAdd,Nat.reduceSub,Nat.reduceMul,Nat.reduceLT,Nat.reduceLeDiff,Nat.reduceEqDiff,reduceIte,Bool.not_true,Bool.not_false,true_and,and_true,Option.map_some,Option.bind_some,Int.toNat_natCast,List.take_zero,List.foldl_nil]),eE,rfl,List.Sublist.refl _⟩
 rintro e h ⟨t,Lh,ht,e3,e5,e6,e7,rfl,hsub⟩;refine dV [3,5,6,7] ?_;refine sJ4 @e3 @e5 @e6 @e7 ?_;intros;refine dU (dX hsub) ?_;intros;refine gR 30 34 c96r8.eq_1 ?_;intros;refine gC ?_;refine gb (fun k3=>?_) (fun k3=>?_)
 ·have k3:t < p.reps.length:=by have:=KM k3;omega
  have hw:=eW t d (by omega) hmd;obtain⟨x,hx⟩:∃ s,p.reps[t]?=some s:=⟨p.reps[t],getElem?_eq_getElem (by omega)⟩;have hnx:(p.reps.take (t+1)).foldl (lsF p.isr r) en=lsF p.isr r ((p.reps.take t).foldl (lsF p.isr r) en) x:=pI _ _ hx;have hsx:=hsm x (mem_of_getElem? hx);intros;refine gN ?_;intros;refine gR 38 42 c96r9.eq_1 ?_;refine hB.x_ld hx rfl rfl ?_;rintro a2 ha2 csx hre2
  have hre20:=hre2;obtain⟨A2,c2,B2,d2,rfl,q5,q6,q7,q8⟩:=hre2;unfold fk at hre20 ⊢;refine sI ?_;have hxk:t=k↔x.id=r.id:=⟨fun h=>by subst h;rw[hr]at hx;cases hx;rfl,fun h=>by
   have h3:=lK hid.1 hx
   have h4:=lK hid.1 hr
   rw[h,h4]at h3
   exact(Option.some.inj h3).symm⟩
  generalize (p.reps.take t).foldl (lsF p.isr r) en=ls at *;have hend2:=jP x.log _ G ⟨A2,c2,rfl,q5,q7⟩ hsx.1;unfold eG at hend2;have hmeet:=Cs x.eps r.eps (fg x.log) en _ _ G q6 q2;intros;refine gR 42 50 c96r10.eq_1 ?_;refine gd (fun k4=>?_) (fun k4=>?_)
  ·have k4:x.id≠r.id:=fun h=>by rw[hxk.2 h]at k4;simp at k4
   refine sI ?_;refine fK (vE p x.id _ G hp0 _ _) ?_;intros;refine gC ?_;refine gbD (fun k5=>?_) (fun k5=>?_)
   ·rw[lsF,if_pos ⟨k4,k5⟩]at hnx;unfold kh at hnx;rw[hen]at hnx;intros;refine dT ?_;refine lk _ KJ (by decide) ?_;refine sJ c96r11.eq_1 ?_;refine fK (hend2 _ _) ?_;refine fK (hmeet _ _) ?_;intros;refine gR2 35 37 c96r12.eq_1 @hw ?_;intros;refine dT ?_;refine eF ⟨⟨t+1,_,by omega,eE,eE,?_,eE,rfl,.cons _ KJ⟩,?_⟩
    ·rw[hnx]
     (refine sI ?_;try with_reducible exact True.intro)
    refine sI ?_;omega
   ·rw[lsF,if_neg (fun h=>k5 h.2)]at hnx;intros;refine gN ?_;intros;refine gR2 35 37 c96r12.eq_1 @hw ?_;intros;refine dT ?_;refine eF ⟨⟨t+1,_,by omega,eE,eE,?_,eE,rfl,.cons _ KJ⟩,?_⟩
    ·rw[hnx]
     (refine sI ?_;try with_reducible exact True.intro)
    refine sI ?_;omega
  ·have k40:(t:Int)=k:=by simpa using k4
   have k4:x.id=r.id:=hxk.1 (by omega);rw[lsF,if_neg (fun h=>h.1 k4)]at hnx;refine sI ?_;intros;refine gC ?_;intros;refine gN ?_;intros;refine gR2 35 37 c96r12.eq_1 @hw ?_;intros;refine dT ?_;refine eF ⟨⟨t+1,_,by omega,eE,eE,?_,eE,rfl,.cons _ KJ⟩,?_⟩
   ·rw[hnx]
    (refine sI ?_;try with_reducible exact True.intro)
   refine sI ?_;omega
 ·have k3:t=p.reps.length:=by have:=KN k3;omega
  subst k3;rw[take_length]at *;refine eg ?_;refine sI ?_;intros;refine gN ?_;intros;refine gR 63 66 c96r13.eq_1 ?_;have hle:p.reps.foldl (lsF p.isr r) en≤en:=by
   rw[← rh hid hin hr];exact nP ..
  have hwith:=nh p k { r with high:=max r.high (p.reps.foldl (lsF p.isr r) en) } _ _ G hp0 ⟨A1,c1,B1,d1,rfl,q1,q2,q3,q4.1,by have:=q4.2;unfold I64 at this ⊢;show _≤max r.high _∧max r.high _≤_;omega⟩ hkl hm;unfold fk at hwith;intros;refine gR 67 71 c96r14.eq_1 ?_;refine(hwith _ _).mono ?_;rintro v h' ⟨G2,rfl,hg2,cs2,rfl,hpe⟩;have hpe0:=hpe;obtain⟨A9,c9,B9,d9,rfl,-⟩:=hpe;unfold eB at hpe0 ⊢
  refine sI ?_;intros;refine rW ?_;exact⟨_,rfl,hpe0⟩
theorem F40:Fun Tryz.prog 40 43 v40 c40 o40:=Fun.mkA Tryz.func40 Tryz.ntmps40
theorem F39:Fun Tryz.prog 39 59 v39 c39 o39:=Fun.mkA Tryz.func39 Tryz.ntmps39
theorem F38:Fun Tryz.prog 38 63 v38 c38 o38:=Fun.mkA Tryz.func38 Tryz.ntmps38
theorem yf{p:Pt}{n:Int}(f:Nat→Rp→Pt × Int)(h:(tU p n).2≠0):mc p (ofQ p n f)=(jZ,(tU p n).2):=by
 unfold tU at h ⊢;by_cases h1:fA p=0
 ·rw[if_neg (fun h=>h h1)]at h ⊢;by_cases h2:fdR p.reps n < 0
  ·rw[if_pos h2];rw[DR f (xP fun x hx he=>lr.1 h2 (List.mem_map.2 ⟨x,hx,he⟩)),jz h1 (by decide)]
  ·rw[if_neg h2]at h;exact absurd rfl h
 ·rw[if_pos h1,mc,if_neg h1]
theorem s7{p:Pt}{n:Int}(h:(tU p n).2=0):fA p=0∧∃ (k:Nat) (r:Rp),(atR p.reps n=some k∧p.reps[k]?=some r)∧r.id=n∧(tU p n).1=(k:Int):=by
 unfold tU at h ⊢;by_cases h1:fA p=0
 ·rw[if_neg (fun h=>h h1)]at h ⊢;by_cases h2:fdR p.reps n < 0
  ·rw[if_pos h2]at h;cases h
  ·rw[if_neg h2];obtain⟨k,r,h3,h4,h5⟩:=lb (l:=p.reps) (n:=n) (Decidable.byContradiction fun h=>h2 (lr.2 h));exact⟨h1,k,r,⟨h3,h4⟩,h5,by rw[fdR,h3]⟩
 ·rw[if_pos h1]at h;exact absurd h h1
theorem vv(p:Pt)(cs:Kt)(n:Int)(G:Ks)(hp:PE G p cs)(hsm:smP p)(hn:I64 n):FnD Tryz.prog 40 #[.agg cs.toArray,.int .i64 n] G (PtR (ofP p n (hY n))):=by
 have hask:=sK p n cs G hp hsm;have hano:=yf (p:=p) (n:=n) (hY n p);have hayes:=@s7 p n;rw[jc];have hp0:=hp;obtain⟨A,c,B,d,rfl,hv1,hv2,hI⟩:=hp;generalize tU p n=q at *;obtain⟨q1,q2⟩:=q;dsimp only at hask hano hayes;refine F40.fnD (by simp) (dY ?_);unfold c40;unfold eB at hp0 hask ⊢;intros;refine gR 0 0 c40r0.eq_1 ?_;intros;refine gR 8 14 c40r1.eq_1 ?_;refine(hask _ _).mono ?_
 rintro v h' ⟨G1,rfl,hg1,rfl⟩;refine sI ?_;intros;refine gR 14 15 c40r2.eq_1 ?_;intros;refine gC ?_;refine gb (fun k1=>?_) (fun k1=>?_)
 ·have k1:=KM k1;intros;refine gR 16 18 c40r3.eq_1 ?_;intros;refine rW ?_;rw[hano k1];exact gU _ _
 have k1:q2=0:=by simpa using k1
 obtain⟨k0,k,r,⟨hk,hr⟩,hid,rfl⟩:=hayes k1;have hok:=jt k0;rw[mD _ hk hr];clear hano hayes hask;have hp1:=hp0.le hg1;have hkl:=(List.getElem?_eq_some_iff.1 hr).1;obtain⟨_,_,he,hd,hmd,hB⟩:=id (SlR.le hg1 hv2);cases he;intros;refine gN ?_;intros;refine gR 19 24 c40r4.eq_1 ?_;refine hB.x_lf (k:=k) (u:=.bool r.up) hr rfl rfl (fun cs h=>by obtain⟨_,_,_,_,rfl,-⟩:=h;rfl) fun a1 ha1=>?_
 refine sI ?_;intros;refine gC ?_;refine gb (fun k2=>?_) (fun k2=>?_)
 ·have k2:r.up=false:=by simpa using k2
  intros;refine gR 25 26 c40r5.eq_1 ?_;intros;refine rW ?_;rw[hY,if_pos k2,jz k0 (by decide)];exact gU _ _
 have k2:¬ r.up=false:=by simpa using k2
 intros;refine gN ?_;intros;refine gR 26 29 c40r6.eq_1 ?_;refine fK (vE p n _ G1 hp1 _ _) ?_;intros;refine gC ?_;refine gb (fun k3=>?_) (fun k3=>?_)
 ·have k3:n∉p.isr:=by simpa using k3
  intros;refine gR 30 31 c40r7.eq_1 ?_;intros;refine rW ?_;rw[hY,if_neg k2,if_pos k3,jz k0 (by decide)];exact gU _ _
 have k3:n∈p.isr:=by simpa using k3
 intros;refine gN ?_;intros;refine gR 32 33 c40r8.eq_1 ?_;intros;refine gC ?_;refine gbD (fun k4=>?_) (fun k4=>?_)
 ·intros;refine gR 34 35 c40r9.eq_1 ?_;intros;refine rW ?_;rw[hY,if_neg k2,if_neg (fun h=>h k3),if_pos k4,jz k0 (by decide)];exact gU _ _
 have hep:0≤p.epoch∧p.epoch≤1048576:=by have:=hok.1.1;simpa [idI]using this
 have hw:IntKind.i64.wrap (p.epoch+1)=p.epoch+1:=by rw[ei] <;> omega
 have hra:=mz { p with epoch:=p.epoch+1,leader:=n } _ G1 ⟨A,c,B,d,rfl,hv1.le (E':=IE) hg1 KO,SlR.le hg1 hv2,by unfold I64;show _≤p.epoch+1∧p.epoch+1≤_;omega,hn,hI.2.2⟩ (fO (p:=p) hok) hok.2.1.2 (mP hsm.1) hsm.2.1;rw[hY,if_neg k2,if_neg (fun h=>h k3),if_neg k4,lc k0];unfold eB at hra;dsimp only at hra;intros;refine gN ?_;intros;refine gR2 36 38 c40r10.eq_1 @hw ?_
 intros;refine gR 39 40 c40r11.eq_1 ?_;intros;refine gR 41 43 c40r12.eq_1 ?_;refine(hra _ _).mono ?_;rintro v h' ⟨G2,rfl,hg2,cs2,rfl,hpe⟩;have hpe0:=hpe;obtain⟨A9,c9,B9,d9,rfl,-⟩:=hpe;unfold eB at hpe0 ⊢;refine sI ?_;intros;refine rW ?_;exact⟨_,rfl,hpe0⟩
theorem AE(p:Pt)(cs:Kt)(n:Int)(G:Ks)(hp:PE G p cs)(hsm:smP p)(hn:I64 n):FnD Tryz.prog 39 #[.agg cs.toArray,.int .i64 n] G (PtR (ofP p n li)):=by
 have hask:=sK p n cs G hp hsm;have hano:=yf (p:=p) (n:=n) (li p);have hayes:=@s7 p n;rw[jc];have hp0:=hp;obtain⟨A,c,B,d,rfl,hv1,hv2,hI⟩:=hp;generalize tU p n=q at *;obtain⟨q1,q2⟩:=q;dsimp only at hask hano hayes;refine F39.fnD (by simp) (dY ?_);unfold c39;unfold eB at hp0 hask ⊢;intros;refine gR 0 0 c39r0.eq_1 ?_;intros;refine gR 12 18 c39r1.eq_1 ?_;refine(hask _ _).mono ?_
 rintro v h' ⟨G1,rfl,hg1,rfl⟩;refine sI ?_;intros;refine gR 18 19 c39r2.eq_1 ?_;intros;refine gC ?_;refine gb (fun k1=>?_) (fun k1=>?_)
 ·have k1:=KM k1;intros;refine gR 20 22 c39r3.eq_1 ?_;intros;refine rW ?_;rw[hano k1];exact gU _ _
 have k1:q2=0:=by simpa using k1
 obtain⟨k0,k,r,⟨hk,hr⟩,hid,rfl⟩:=hayes k1;have hok:=jt k0;rw[mD _ hk hr];clear hano hayes hask;have hp1:=hp0.le hg1;have hkl:=(List.getElem?_eq_some_iff.1 hr).1;obtain⟨_,_,he,hd,hmd,hB⟩:=id (SlR.le hg1 hv2);cases he;intros;refine gN ?_;intros;refine gR 23 27 c39r4.eq_1 ?_;refine hB.x_lf (k:=k) (u:=.bool r.up) hr rfl rfl (fun cs h=>by obtain⟨_,_,_,_,rfl,-⟩:=h;rfl) fun a1 ha1=>?_
 refine sI ?_;intros;refine gC ?_;refine gb (fun k2=>?_) (fun k2=>?_)
 ·intros;refine gR 28 29 c39r5.eq_1 ?_;intros;refine rW ?_;rw[li,if_pos k2,jz k0 (by decide)];exact gU _ _
 rw[li,if_neg (by rw[k2];simp),lc k0];have hsr:=hsm.1 r (mem_of_getElem? hr);have hbr:uY r=⟨r.id,true,(iQ r.log).1,m6 r.eps (fg (iQ r.log).1),min r.high (fg (iQ r.log).1)⟩:=rfl;rw[hbr];clear hbr;intros;refine gN ?_;intros;refine gR 30 34 c39r6.eq_1 ?_;refine hB.x_ld hr rfl rfl ?_;rintro a2 ha2 csr hre;obtain⟨A1,c1,B1,d1,rfl,q1,q2,q3,q4⟩:=hre;unfold fk
 have hrec:=xW r.log _ G1 ⟨A1,c1,rfl,q1,q3⟩ hsr.1 hsr.2.1;have hsm2:=xV hsr.1 hsr.2.1;unfold eG at hrec;generalize iQ r.log=rl at *;obtain⟨L2,e2⟩:=rl;dsimp only at hrec hsm2 ⊢;refine sI ?_;intros;refine gR 34 40 c39r7.eq_1 ?_;refine(hrec _ _).mono ?_;rintro v h' ⟨G2,rfl,hg2,cs2,rfl,hle⟩;dsimp only at hle;have hend:=jP L2 cs2 G2 hle hsm2.1;obtain⟨A2,c2,rfl,hsl2,hlim2⟩:=hle;unfold eG at hend ⊢
 refine sI ?_;intros;refine gR 40 42 c39r8.eq_1 ?_;refine fK (hend _ _) ?_;have hei:=kw L2;generalize fg L2=en at *;intros;refine gR 0 0 c39r9.eq_1 ?_;intros;refine gR 43 44 c39r10.eq_1 ?_;have hcut:=zM r.eps en _ G2 (q2.le hg2 KO) (by have:=hsr.2.2;omega);intros;refine gR 46 49 c39r11.eq_1 ?_;refine(jd (E:=EpE) (et:=151) (sz:=2) hcut _ _).mono ?_
 rintro r' h' ⟨G3,L',rfl,hg3,A3,c3,ye,rfl,-,hye,rfl⟩;refine sI ?_;intros;refine eI (eh [] _ (by decide) hye) ?_;rintro h' ⟨G4,rfl,hg4,hv4⟩;have hg04:Gle G1 G4:=hg2.trans (hg3.trans hg4)
 have hwith:=nh p k ⟨r.id,true,L2,m6 r.eps en,min r.high en⟩ _ _ G4 (hp1.le hg04) ⟨A2,c2,A3,c3,rfl,SlSE.le (hg3.trans hg4) hsl2,hv4,hlim2,q4.1,by have:=q4.2;unfold I64 at this ⊢;show _≤min r.high _∧min r.high _≤_;omega⟩ hkl hsm.2.1;unfold fk at hwith;intros;refine gR 51 54 c39r12.eq_1 ?_;intros;refine gR 55 59 c39r13.eq_1 ?_;refine(hwith _ _).mono ?_;rintro v h' ⟨G5,rfl,hg5,cs5,rfl,hpe⟩
 have hpe0:=hpe;obtain⟨A9,c9,B9,d9,rfl,-⟩:=hpe;unfold eB at hpe0 ⊢;refine sI ?_;intros;refine rW ?_;exact⟨_,rfl,hpe0⟩
theorem xK(p:Pt)(cs:Kt)(n t:Int)(G:Ks)(hp:PE G p cs)(hsm:smP p)(hn:I64 n)(ht:I64 t):FnD Tryz.prog 38 #[.agg cs.toArray,.int .i64 n,.int .i64 t] G (PtR (ofP p n (i9 n t))):=by
 have hask:=sK p n cs G hp hsm;have hano:=yf (p:=p) (n:=n) (i9 n t p);have hayes:=@s7 p n;rw[jc];have hp0:=hp;obtain⟨A,c,B,d,rfl,hv1,hv2,hI⟩:=hp;generalize tU p n=q at *;obtain⟨q1,q2⟩:=q;dsimp only at hask hano hayes;refine F38.fnD (by simp) (dY ?_);unfold c38;unfold eB at hp0 hask ⊢;intros;refine gR 0 0 c38r0.eq_1 ?_;intros;refine gR 11 17 c38r1.eq_1 ?_;refine(hask _ _).mono ?_
 rintro v h' ⟨G1,rfl,hg1,rfl⟩;refine sI ?_;intros;refine gR 17 18 c38r2.eq_1 ?_;intros;refine gC ?_;refine gb (fun k1=>?_) (fun k1=>?_)
 ·have k1:=KM k1;intros;refine gR 19 21 c38r3.eq_1 ?_;intros;refine rW ?_;rw[hano k1];exact gU _ _
 have k1:q2=0:=by simpa using k1
 obtain⟨k0,k,r,⟨hk,hr⟩,hid,rfl⟩:=hayes k1;have hok:=jt k0;rw[mD _ hk hr];clear hano hayes hask;have hp1:=hp0.le hg1;have hkl:=(List.getElem?_eq_some_iff.1 hr).1;obtain⟨_,_,he,hd,hmd,hB⟩:=id (SlR.le hg1 hv2);cases he;intros;refine gN ?_;intros;refine gR 21 22 c38r4.eq_1 ?_;intros;refine gC ?_;refine gbD (fun k2=>?_) (fun k2=>?_)
 ·intros;refine gR 23 24 c38r5.eq_1 ?_;intros;refine rW ?_;rw[i9,if_pos k2,jz k0 (by decide)];exact gU _ _
 intros;refine gN ?_;intros;refine gR 25 30 c38r6.eq_1 ?_;refine hB.x_lf (k:=k) (u:=.bool r.up) hr rfl rfl (fun cs h=>by obtain⟨_,_,_,_,rfl,-⟩:=h;rfl) fun a1 ha1=>?_
 refine sI ?_;intros;refine gC ?_;refine gb (fun k3=>?_) (fun k3=>?_)
 ·have k3:r.up=false:=by simpa using k3
  intros;refine gR 31 32 c38r7.eq_1 ?_;intros;refine rW ?_;rw[i9,if_neg k2,if_pos k3,jz k0 (by decide)];exact gU _ _
 have k3:r.up=true:=by simpa using k3
 rw[i9,if_neg k2,if_neg (by rw[k3];simp),lc k0];have hsr:=hsm.1 r (mem_of_getElem? hr);have hlr:n7 r=r.log:=by rw[n7,if_pos k3]
 have hck:fS r.log=0:=by rw[← hlr];exact(hok.1.2.2.2.2 r (mem_of_getElem? hr)).2.1
 intros;refine gN ?_;intros;refine gR 33 37 c38r8.eq_1 ?_;refine hB.x_ld hr rfl rfl ?_;rintro a2 ha2 csr hre;obtain⟨A1,c1,B1,d1,rfl,q1,q2,q3,q4⟩:=hre;unfold fk;have htorn:=zx r.log t _ G1 ⟨A1,c1,rfl,q1,q3⟩ (ib hck).2.1 (by have:=hsr.2.1;omega) ⟨by omega,ht⟩;have hsmt:=tD (n:=t) hsr.1;have hlt:(m1 r.log t).segs.length=r.log.segs.length:=by unfold m1;exact List.length_set ..
 unfold eG at htorn;generalize m1 r.log t=L2 at *;refine sI ?_;intros;refine gR 0 0 c38r9.eq_1 ?_;intros;refine gR 39 42 c38r10.eq_1 ?_;refine(htorn _ _).mono ?_;rintro v h' ⟨G2,rfl,hg2,cs2,rfl,A2,c2,rfl,hsl2,hlim2⟩;unfold eG;refine sI ?_;have hwith:=nh p k ⟨r.id,false,L2,r.eps,r.high⟩ _ _ G2 (hp1.le hg2) ⟨A2,c2,B1,d1,rfl,hsl2,q2.le hg2 KO,hlim2,q4⟩ hkl hsm.2.1;unfold fk at hwith
 intros;refine gR 43 47 c38r11.eq_1 ?_;refine(hwith _ _).mono ?_;rintro v h' ⟨G3,rfl,hg3,cs3,rfl,A3,c3,B3,d3,rfl,hv3,hv4,hI3⟩;have hset:=l4 (y:=⟨r.id,false,L2,r.eps,r.high⟩) hr rfl (fO hok);have hidsr:=nB (y:=⟨r.id,false,L2,r.eps,r.high⟩) hr rfl;have hsms:∀ z∈p.reps.set k ⟨r.id,false,L2,r.eps,r.high⟩,smW z:=mP (sy hsm.1 ⟨hsmt,by show L2.segs.length≤_;have:=hsr.2.1;omega,hsr.2.2⟩)
 have hlrs:(p.reps.set k ⟨r.id,false,L2,r.eps,r.high⟩).length=p.reps.length:=List.length_set ..;have hkk:∀ is,hO { p with isr:=is } k ⟨r.id,false,L2,r.eps,r.high⟩={ p with isr:=is,reps:=p.reps.set k ⟨r.id,false,L2,r.eps,r.high⟩ }:=fun is=>rfl
 unfold hO at hv3 hv4;unfold eB hO;dsimp only at hv3 hv4 ⊢;generalize p.reps.set k ⟨r.id,false,L2,r.eps,r.high⟩=rs at *;have hldi:I64 (if p.leader=n then -1 else p.leader):=by
  split
  ·unfold I64;decide
  ·exact hI.2.1
 refine sI ?_;intros;try refine ed ?_
 refine dU (dX (.cons _ KJ)) ?_;refine eL (fun e h=>e 1=.int .i64 n∧h=⟨G3,[.reg 6 [.int .i64 0,.int .i64 0,.int .i64 0,.slice none 0 0,.slice none 0 0],.reg 3 [.int .i64 p.epoch,.int .i64 (if p.leader=n then -1 else p.leader),.int .i64 p.least,.slice A3 p.isr.length c3,.slice B3 rs.length d3]],[]⟩) ?_ ?_
 ·intros;refine gR 48 50 c38r12.eq_1 ?_;intros;refine gC ?_;refine gbD (fun k4=>?_) (fun k4=>?_)
  ·rw[if_pos k4];intros;refine gR 0 0 c38r13.eq_1 ?_;intros;exact eF ⟨eE,rfl⟩
  ·rw[if_neg k4];intros;refine gN ?_;exact eF ⟨eE,rfl⟩
 generalize (if p.leader=n then -1 else p.leader)=ld at *;rintro e h ⟨e1,rfl⟩;refine dV [1] ?_;refine sJ @e1 ?_;intros;try refine ed ?_
 refine eL (fun e h=>∃ (G4:Ks) (u:Value) (is:KG),(is=(if 1 < p.isr.length then p.isr.filter fun m=>decide (m≠n)else p.isr)∧Gle G3 G4∧SlV G4 IE 1 u is)∧h=⟨G4,[.reg 6 [.int .i64 0,.int .i64 0,.int .i64 0,.slice none 0 0,.slice none 0 0],.reg 3 [.int .i64 p.epoch,.int .i64 ld,.int .i64 p.least,u,.slice B3 rs.length d3]],[]⟩) ?_ ?_
 ·intros;try refine ed ?_
  intros;refine gR 53 55 c38r14.eq_1 ?_;intros;refine gC ?_;refine gbD (fun k4=>?_) (fun k4=>?_)
  ·intros;refine gR 57 60 c38r15.eq_1 ?_;refine(zL p.isr n _ G3 hv3 hsm.2.2 _ _).mono ?_;rintro v h' ⟨G4,rfl,hg4,hv5⟩;have hv50:=hv5;obtain⟨A5,c5,rfl,-⟩:=hv5;refine sI ?_;intros;exact eF ⟨G4,_,_,⟨by rw[if_pos (by omega)],hg4,hv50⟩,rfl⟩
  ·intros;refine gN ?_;exact eF ⟨G3,_,p.isr,⟨by rw[if_neg (by omega)],.refl _,hv3⟩,rfl⟩
 rintro e h ⟨G4,u,is,⟨his,hg4,hv5⟩,rfl⟩;refine dV [] ?_;have hin:∀ m∈is,m∈gj rs:=fun m hm=>by
  rw[hidsr];refine hok.2.1.2 m ?_;rw[his]at hm;split at hm
  ·exact(List.mem_filter.1 hm).1
  ·exact hm
 rw[← his];obtain⟨A5,c5,rfl,hv6⟩:=id hv5;have hra:=mz ⟨p.epoch,ld,p.least,is,rs⟩ _ G4 ⟨A5,c5,B3,d3,rfl,hv5,SlR.le hg4 hv4,hI.1,hldi,hI.2.2⟩ hset hin hsms (by show rs.length≤_;rw[hlrs];exact hsm.2.1);unfold eB at hra;dsimp only at hra;intros;refine gR 61 63 c38r16.eq_1 ?_;refine(hra _ _).mono ?_;rintro v h' ⟨G5,rfl,hg5,cs5,rfl,hpe⟩;have hpe0:=hpe;obtain⟨A9,c9,B9,d9,rfl,-⟩:=hpe;unfold eB at hpe0 ⊢
 refine sI ?_;intros;refine rW ?_;exact⟨_,rfl,hpe0⟩
theorem dnn(n:Int):decide (n≠n)=false:=decide_eq_false fun h=>h rfl
theorem F28:Fun Tryz.prog 28 38 v28 c28 o28:=Fun.mkA Tryz.func28 Tryz.ntmps28
theorem F17:Fun Tryz.prog 17 81 v17 c17 o17:=Fun.mkA Tryz.func17 Tryz.ntmps17
theorem ny{α:Type}[DecidableEq α](x:α):decide (x=x)=true:=decide_eq_true rfl
theorem u7(a:Rp)(cs ds:Kt)(G:Ks)(ha:RE G a cs)(hb:RE G a ds):FnS Tryz.prog 28 #[.agg cs.toArray,.agg ds.toArray] G (.bool true):=by
 obtain⟨A1,c1,B1,d1,rfl,q1,q2,q3,q4⟩:=ha;obtain⟨A2,c2,B2,d2,rfl,t1,t2,t3,t4⟩:=hb;have h1:=Ah a.log a.log (eG a.log A1 c1) (eG a.log A2 c2) G ⟨A1,c1,rfl,q1,q3⟩ ⟨A2,c2,rfl,t1,t3⟩;have h2:=zT a.eps a.eps _ _ G q2 t2;rw[ny]at h1 h2;refine F28.fnS (by simp) (dY ?_);unfold c28 fk;unfold eG at h1;intros;refine gR 0 0 c28r0.eq_1 ?_;have hu:(a.up == a.up)=true:=by simp
 intros;refine gr 6 38 ?_;refine sJ3 c28r1.eq_1 @ny @hu ?_;refine sJ @ny ?_;refine fK (h1 _ _) ?_;refine fK (h2 _ _) ?_;intros;refine rV ?_;simp only[push_cast,Nat.reduceBEq]
theorem nc(p:Pt)(cs ds:Kt)(G:Ks)(ha:PE G p cs)(hb:PE G p ds):FnS Tryz.prog 17 #[.agg cs.toArray,.agg ds.toArray] G (.bool true):=by
 obtain⟨A1,c1,B1,d1,rfl,q1,q2,-⟩:=ha;obtain⟨A2,c2,B2,d2,rfl,t1,t2,-⟩:=hb;obtain⟨_,_,he,hc1,hm1,hA1⟩:=q1;cases he;obtain⟨_,_,he,hc2,hm2,hA2⟩:=t1;cases he;obtain⟨_,_,he,hd1,hn1,hB1⟩:=q2;cases he;obtain⟨_,_,he,hd2,hn2,hB2⟩:=t2;cases he;refine F17.fnS (by simp) (dY ?_);unfold c17 eB;intros;refine gR 0 0 c17r0.eq_1 ?_;intros;refine gR2 8 43 c17r1.eq_1 @dnn ?_;intros;refine gC ?_;intros;refine gN ?_
 intros;try refine ed ?_
 refine eL (fun e h=>h=⟨G,[.reg 3 [.int .i64 p.epoch,.int .i64 p.leader,.int .i64 p.least,.slice A2 p.isr.length c2,.slice B2 p.reps.length d2],.reg 2 [.int .i64 p.epoch,.int .i64 p.leader,.int .i64 p.least,.slice A1 p.isr.length c1,.slice B1 p.reps.length d1]],[]⟩) ?_ ?_
 ·intros;try refine ed ?_
  intros;refine gR 0 0 c17r3.eq_1 ?_;intros;refine dT ?_
  refine ej (fun e h=>∃ k:Nat,k≤p.isr.length∧e 5=.int .i64 k∧h=⟨G,[.reg 3 [.int .i64 p.epoch,.int .i64 p.leader,.int .i64 p.least,.slice A2 p.isr.length c2,.slice B2 p.reps.length d2],.reg 2 [.int .i64 p.epoch,.int .i64 p.leader,.int .i64 p.least,.slice A1 p.isr.length c1,.slice B1 p.reps.length d1]],[]⟩) (fun e h=>p.isr.length - iv (e 5)) ?_ ?_
  ·exact⟨0,Nat.zero_le _,eE,rfl⟩
  rintro e h ⟨k,hk,e5,rfl⟩;refine dV [5] ?_;refine sJ @e5 ?_;intros;refine gR 44 48 c17r4.eq_1 ?_;intros;refine gC ?_;refine gb (fun k2=>?_) (fun k2=>?_)
  ·have k2:k < p.isr.length:=by have:=KM k2;omega
   have hw:=eW k c1 (by omega) hm1;obtain⟨s,hs⟩:∃ s,p.isr[k]?=some s:=⟨p.isr[k],getElem?_eq_getElem (by omega)⟩;intros;refine gN ?_;intros;refine dT ?_;refine qB 52 61 (by decide) ?_;refine sJ c17r5.eq_1 ?_;refine hA1.y_l1 hs rfl rfl ?_;rintro a1 ha1 u1 ⟨hu,-⟩;cases hu;refine sI ?_;refine hA2.y_l1 hs rfl rfl ?_;rintro a2 ha2 u2 ⟨hu,-⟩;cases hu;refine sJ @dnn ?_;intros;refine gC ?_
   intros;refine gN ?_;intros;refine gR2 49 51 c17r7.eq_1 @hw ?_;intros;refine dT ?_;refine eF ⟨⟨k+1,by omega,eE,rfl⟩,?_⟩;refine sI ?_;omega
  ·have k2:k=p.isr.length:=by have:=KN k2;omega
   subst k2;intros;refine gN ?_;refine eg ?_;refine sI ?_;exact eF rfl
 rintro e h rfl;refine dV [] ?_;intros;intros;try refine ed ?_
 refine eL (fun e h=>h=⟨G,[.reg 3 [.int .i64 p.epoch,.int .i64 p.leader,.int .i64 p.least,.slice A2 p.isr.length c2,.slice B2 p.reps.length d2],.reg 2 [.int .i64 p.epoch,.int .i64 p.leader,.int .i64 p.least,.slice A1 p.isr.length c1,.slice B1 p.reps.length d1]],[]⟩) ?_ ?_
 ·intros;try refine ed ?_
  intros;refine gR 0 0 c17r8.eq_1 ?_;intros;refine dT ?_
  refine ej (fun e h=>∃ k:Nat,k≤p.reps.length∧e 6=.int .i64 k∧h=⟨G,[.reg 3 [.int .i64 p.epoch,.int .i64 p.leader,.int .i64 p.least,.slice A2 p.isr.length c2,.slice B2 p.reps.length d2],.reg 2 [.int .i64 p.epoch,.int .i64 p.leader,.int .i64 p.least,.slice A1 p.isr.length c1,.slice B1 p.reps.length d1]],[]⟩) (fun e h=>p.reps.length - iv (e 6)) ?_ ?_
  ·exact⟨0,Nat.zero_le _,eE,rfl⟩
  rintro e h ⟨k,hk,e6,rfl⟩;refine dV [6] ?_;refine sJ @e6 ?_;intros;refine gR 62 66 c17r9.eq_1 ?_;intros;refine gC ?_;refine gb (fun k2=>?_) (fun k2=>?_)
  ·have k2:k < p.reps.length:=by have:=KM k2;omega
   have hw:=eW k d1 (by omega) hn1;obtain⟨s,hs⟩:∃ s,p.reps[k]?=some s:=⟨p.reps[k],getElem?_eq_getElem (by omega)⟩;intros;refine gN ?_;intros;refine dT ?_;refine lk _ KJ (by decide) ?_;refine sJ c17r10.eq_1 ?_;refine hB1.y_ld hs rfl rfl ?_;rintro a1 ha1 cs1 hre1;refine sI ?_;refine hB2.y_ld hs rfl rfl ?_;rintro a2 ha2 cs2 hre2;have hsm:=u7 s cs1 cs2 G hre1 hre2;obtain⟨A5,c5,B5,d5,rfl,-⟩:=hre1
   obtain⟨A6,c6,B6,d6,rfl,-⟩:=hre2;unfold fk at hsm ⊢;refine sI ?_;refine fK (hsm _ _) ?_;intros;refine gC ?_;intros;refine gN ?_;intros;refine gR2 67 69 c17r12.eq_1 @hw ?_;intros;refine dT ?_;refine eF ⟨⟨k+1,by omega,eE,rfl⟩,?_⟩;refine sI ?_;omega
  ·have k2:k=p.reps.length:=by have:=KN k2;omega
   subst k2;intros;refine gN ?_;refine eg ?_;refine sI ?_;exact eF rfl
 rintro e h rfl;refine dV [] ?_;intros;intros;refine gR 0 0 c17r13.eq_1 ?_;intros;refine rV ?_;simp only[push_cast,Nat.reduceBEq]
theorem DD{p:Pt}(h:smP p):smL (ji p).1.segs∧(ji p).1.segs.length≤1000000:=by
 have h0:smL hH.segs∧hH.segs.length≤1000000:=⟨fun s hs=>absurd hs (by simp[hH]),by simp[hH]⟩;unfold ji;split
 ·exact h0
 ·split
  ·exact h0
  ·dsimp only;split
   ·rename_i k hk;cases hr:p.reps[k]? with
    | none=>exact h0
    | some r =>
     have:=h.1 r (mem_of_getElem? hr);exact⟨this.1,Nat.le_trans this.2.1 (by decide)⟩
   ·exact h0
end Go.Proofs.YtpmofpekcbghnaaGreat

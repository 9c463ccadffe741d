/- Parts of a proof, 29 texts in one file. No condition. -/
import Derived.Test.YtpmofpekcbghnaaGreatM1
import Derived.Test.YtpmofpekcbghnaaGreatM2
import Derived.Test.YtpmofpekcbghnaaGreatM3
import Derived.Test.YtpmofpekcbghnaaGreatM4
import Derived.Test.YtpmofpekcbghnaaGreatM5
import Derived.Test.YtpmofpekcbghnaaGreatM6
import Derived.Test.YtpmofpekcbghnaaGreatM7
import Derived.Test.YtpmofpekcbghnaaGreatM8
set_option linter.unusedSimpArgs false
set_option linter.unusedVariables false
namespace Go.Proofs.YtpmofpekcbghnaaGreat
open Go Go.Kx
open List (getElem?_eq_getElem mem_of_getElem? length_append take_length append_nil)
theorem F51:Fun Tryz.prog 51 26 v51 c51 o51:=Fun.mkA Tryz.func51 Tryz.ntmps51
theorem F61:Fun Tryz.prog 61 4 v61 c61 o61:=Fun.mkA Tryz.func61 Tryz.ntmps61
theorem F111:Fun Tryz.prog 111 22 v111 c111 o111:=Fun.mkA Tryz.func111 Tryz.ntmps111
def PtL(p:Pt)(x:Nat)(A:JY)(c:Nat)(B:JY)(d:Nat)(ys zs:JU):JW:=[.blk x (eH p A c B d),.row (.slice B p.reps.length d) 50 7 p.reps.length zs,.row (.slice A p.isr.length c) 3 1 p.isr.length ys]
def PtG(G:JT)(p:Pt)(x:Nat)(A:JY)(c:Nat)(B:JY)(d:Nat):Prop :=
 (∀ j u,(eH p A c B d)[j]?=some u→fw G ⟨x,j,none⟩=some u)∧SlV G IE 1 (.slice A p.isr.length c) p.isr∧SlV G (RE G) 7 (.slice B p.reps.length d) p.reps
theorem PtG.le{G G':JT}(hg:Gle G G'){p:Pt}{x:Nat}{A:JY}{c:Nat}{B:JY}{d:Nat}(h:PtG G p x A c B d):PtG G' p x A c B d :=
 ⟨fun j u hu=>em hg (h.1 j u hu),h.2.1.le hg Kd,SlR.le hg h.2.2⟩
theorem eT{p:Pt}{x:Nat}{A:JY}{c:Nat}{B:JY}{d:Nat}{ys zs:JU}:ez (PtL p x A c B d ys zs):=ec (dV (dV dS))
theorem xF{p:Pt}{x:Nat}{A:JY}{c:Nat}{B:JY}{d:Nat}{ys zs:JU}{G:JT}{L:JW}{D:J5}(hy:Cells IE 1 p.isr ys)(hz:Cells (RE G) 7 p.reps zs):
  Bz G (PtL p x A c B d ys zs) L D (fun G'=>PtG G' p x A c B d) :=
 jn (M1:=fun G'=>∀ j u,(eH p A c B d)[j]?=some u→fw G' (Addr.add ⟨x,0,none⟩ j)=some u) (fun L=>jy) fun G1 hg1 h1 =>
  jn (M1:=fun G'=>SlV G' (RE G1) 7 (.slice B p.reps.length d) p.reps) (fun L=>kl (by decide) (eU hz fun _ _ h=>RE.le hg1 h)) fun G2 hg2 h2 =>
   jn (M1:=fun G'=>SlV G' IE 1 (.slice A p.isr.length c) p.isr) (fun L=>kl (by decide) hy) fun G3 hg3 h3 =>
    mJ ⟨fun j u hu=>by
     have:=em (hg2.trans hg3) (h1 j u hu)
     rwa [gV]at this,h3,h2.le hg3 fun _ _ h=>RE.le (hg2.trans hg3) h⟩
def rF(l:List Rp):Prop:=(gz l).Pairwise (· < ·)∧∀ r∈l,idI r.id=true
def uI(B:JY):J8→JY
 | none=>none
 | some k=>B.map (·.add (k * 7))
theorem zh(p:Pt)(x:Nat)(A:JY)(c:Nat)(B:JY)(d:Nat)(n:Int)(G:JT)(hp:PtG G p x A c B d)(hn:I64 n)(hid:rF p.reps):
  FnS Tryz.prog 51 #[.pointer (some ⟨x,0,none⟩),.int .i64 n] G (.pointer (uI B (atR p.reps n))):=by
 obtain⟨h1,h2,h3⟩:=hp;have hbs:=rH p.reps n _ G h3 hn hid.1 hid.2;obtain⟨B0,d0,he,hd0,hmx,hA⟩:=h3;cases he;refine F51.fnS (by simp) (d7 ?_);unfold c51;intros;refine gR 0 0 c51r0.eq_1 ?_;intros;refine gR 7 17 c51r1.eq_1 ?_;refine⟨_,⟨_,rfl,.g (h1 4 _ rfl)⟩,?_⟩;refine sI ?_;refine(hbs _ _).mono ?_;rintro r h' ⟨⟨j,rfl,hj,hk⟩,rfl⟩;refine sI ?_;intros;try refine dU ?_
 intros;try refine dU ?_
 intros;refine gR 17 18 c51r2.eq_1 ?_;intros;refine gC ?_;refine gb (fun k1=>?_) (fun k1=>?_)
 ·have k1:atR p.reps n=none:=by simpa using k1
  intros;refine gR 0 0 c51r3.eq_1 ?_;intros;refine rW ?_;rw[k1];rfl
 ·obtain⟨k,hk1⟩:∃ k,atR p.reps n=some k:=Option.isSome_iff_exists.1 (by simpa using k1);have:=hk k hk1;subst this;obtain⟨r,hr,-⟩:=iU hk1;have hkl:=(List.getElem?_eq_some_iff.1 hr).1;obtain⟨a,cs,ha,-⟩:=hA j r hr;subst ha;intros;refine gN ?_;intros;refine gR 19 26 c51r4.eq_1 ?_;refine⟨_,⟨_,rfl,.g (h1 4 _ rfl)⟩,?_⟩;refine sI ?_;refine⟨by omega,a,rfl,?_⟩;refine sI ?_;intros;refine rW ?_;rw[hk1];rfl
def AtX(B:JY)(l:List Rp)(_:JT)(n:Int)(args:Array Value):Prop:=args=#[.pointer (uI B (atR l n))]
theorem mn(p:Pt)(x b:Nat)(A:JY)(c:Nat)(B:JY)(d:Nat)(G0:JT)(hp:PtG G0 p x A c B d)(hid:rF p.reps)(hb:fw G0 ⟨b,0,none⟩=some (.pointer (some ⟨x,0,none⟩))):
  kJ Tryz.prog 111 #[.pointer (some ⟨b,0,none⟩)] p.isr (AtX B p.reps) G0:=by
 intro yl I Ix G L hG hn hI hIx hmo h0 hy L2 D;have hargs:(#[.func (.yield yl) #[] #[]]++#[.pointer (some ⟨b,0,none⟩)]:Array Value)=#[.func (.yield yl) #[] #[],.pointer (some ⟨b,0,none⟩)]:=rfl;rw[hargs];have hp:=hp.le hG;have hb:=em hG hb;obtain⟨A0,c0,he,hc0,hmx,hA⟩:=id hp.2.1;cases he
 refine(F111.calls (R:=fun _ h=>Gle G h.G∧(I p.isr.length h.G h.L∨∃ i,i < p.isr.length∧Ix i h.G h.L)) (by simp) hn (d7 ?_) L2 D).mono ?_
 ·unfold c111;intros;refine gR 5 9 c111r0.eq_1 ?_;refine⟨_,⟨_,rfl,.g hb⟩,?_⟩;refine sI ?_;refine⟨_,⟨_,rfl,.g (hp.1 3 _ rfl)⟩,?_⟩;refine sI ?_;intros;refine dT ?_
  refine ej (fun e h=>∃ (t:Nat) (G':JT) (L':JW),(t≤p.isr.length∧Gle G G'∧ez L'∧I t G' L')∧e 11=.int .i64 t∧e 10=.int .i64 p.isr.length∧e 9=.slice A p.isr.length c∧e 0=.func (.yield yl) #[] #[]∧e 1=.pointer (some ⟨b,0,none⟩)∧h=⟨G',L',[]⟩) (fun e h=>p.isr.length - iv (e 11)) ?_ ?_
  ·exact⟨0,G,L,⟨Nat.zero_le _,.refl G,hn,h0⟩,eE,eE,eE,eE,eE,rfl⟩
  ·rintro e h ⟨t,G',L',⟨ht,hgg,hn',hI'⟩,e11,e10,e9,e0,e1,rfl⟩;refine dX [0,1,9,10,11] ?_;refine sJ5 @e0 @e1 @e9 @e10 @e11 ?_;intros;refine gR 0 0 c111r1.eq_1 ?_;intros;refine gC ?_;refine gb (fun k1=>?_) (fun k1=>?_)
   ·have htl:t < p.isr.length:=by have:=Kb k1;omega
    have hw:=eY t c (by omega) hmx;obtain⟨n,hx⟩:∃ n,p.isr[t]?=some n:=⟨p.isr[t],getElem?_eq_getElem (by omega)⟩;have hb':=em hgg hb;have hp':=hp.le hgg;have hAg:=hA.le (E':=IE) hgg Kd;intros;refine gN ?_;intros;refine gR 13 15 c111r2.eq_1 ?_;refine hAg.x_l1 hx rfl rfl ?_;rintro a1 ha1 u1 ⟨hu,hni⟩;cases hu;refine sI ?_;intros;refine gR 15 20 c111r3.eq_1 ?_;refine⟨_,⟨_,rfl,.g hb'⟩,?_⟩
    refine sI ?_;refine fK (zh p x A c B d n _ hp' hni hid _ _) ?_;refine .inr ⟨yl,rfl,?_⟩;refine(qd hy hx hgg rfl hI').mono ?_;rintro v h' ⟨G2,L3,rfl,hg2,hn2,hr⟩;rcases hr with⟨rfl,hr⟩ | ⟨rfl,hr⟩
    ·refine sI ?_;intros;refine gC ?_;intros;refine gN ?_;intros;refine gR2 21 22 c111r4.eq_1 @hw ?_;intros;refine dT ?_;refine eC ⟨⟨t+1,G2,L3,⟨by omega,hgg.trans hg2,hn2,hr⟩,eE,eE,eE,eE,eE,rfl⟩,?_⟩;refine sI ?_;omega
    ·refine sI ?_;intros;refine gC ?_;intros;refine dT ?_;refine ea (ee L3 rfl J9 hn2 ?_);exact⟨hgg.trans hg2,.inr ⟨t,htl,hr⟩⟩
   ·have htl:t=p.isr.length:=by have:=Kc k1;omega
    subst htl;refine eg ?_;refine sI ?_;refine gv ?_;exact⟨[],rfl,⟨G',L',[]⟩,dY J9,hn',hgg,.inl hI'⟩
 ·rintro v h' ⟨G',L',rfl,hn',hgg,hr⟩;exact⟨G',L',rfl,hgg,hn',hr⟩
theorem pY(p:Pt)(x:Nat)(G:JT):
  FnD Tryz.prog 61 #[.pointer (some ⟨x,0,none⟩)] G (fun G' r=>∃ b,r=.func (.func 111) #[] #[.pointer (some ⟨b,0,none⟩)]∧fw G' ⟨b,0,none⟩=some (.pointer (some ⟨x,0,none⟩))):=by
 refine F61.fnD (by simp) (d7 ?_);unfold c61;intros;refine gR 0 0 c61r0.eq_1 ?_;intro b1 hb1;intros;refine dT ?_;refine eI jy ?_;rintro h' ⟨G1,rfl,hg1,hc1⟩;have e1:=hc1 0 _ rfl;rw[eS]at e1;intros;refine gR 3 4 c61r1.eq_1 ?_;intros;refine rW ?_;exact⟨b1,rfl,e1⟩
theorem F71:Fun Tryz.prog 71 60 v71 c71 o71:=Fun.mkA Tryz.func71 Tryz.ntmps71
def smW(r:Rp):Prop:=smL r.log.segs∧r.log.segs.length≤1000000∧r.eps.length≤1000000
theorem qt{l:List Rp}(h:∀ r∈l,smR r):∀ r∈l,smW r:=fun r hr=>by
 obtain⟨h1,h2,h3⟩:=h r hr;exact⟨h1,by omega,by omega⟩
theorem s9(p:Pt)(x:Nat)(A:JY)(c:Nat)(B:JY)(d:Nat)(ys zs:JU)(n:Int)(h:H)(L:JW)(hL:h.L.Perm (PtL p x A c B d ys zs++L))(hy:Cells IE 1 p.isr ys)(hz:Cells (RE h.G) 7 p.reps zs)(hn:I64 n)(hid:rF p.reps):
  eP Tryz.prog 51 #[.pointer (some ⟨x,0,none⟩),.int .i64 n] h fun r h'=>r=.pointer (uI B (atR p.reps n))∧h'=h :=
 jd eT F51.enters hL (xF hy hz) fun G' hg hp=>zh p x A c B d n G' hp hn hid L h.D
theorem u9:∀ (bs:J4) (nx:Int),(0≤nx∧nx≤1099511627777)→(∀ x∈bs,fF x=0)→0≤fQ nx bs∧fQ nx bs≤1099511627777
 | [],nx,h,_=>h
 | b :: bs,nx,h,hb=>by
  have:=ib.1 (wt (hb b (.head _))).2;exact u9 bs (b.last+1) (by omega) fun x hx=>hb x (.tail _ hx)
theorem m6(l:Lg):0≤fD l∧fD l≤1099511627777:=by
 unfold fD;split
 ·rename_i h;obtain⟨s,e1,e2,e3,e4,e5⟩:=pF h;have h1:=ib.1 (En (iS h).1);have h2:=ib.1 (gi.1 e5.1.1).2;obtain⟨r,hs⟩:=fx s;have h3:=u9 (fe s) s.base (by omega) hs.ok;rw[e4];have h4:j8 s=fQ s.base (fe s):=rfl;omega
 ·omega
theorem qS(l:List Rp)(k:Nat)(r:Rp):∀ (is:J6) (m:Int),gh l k r m is≤m
 | [],m=>Int.le_refl _
 | n :: is,m=>by
  have h1:=qS l k r is (nI l k r m n);have h2:nI l k r m n≤m:=by
   unfold nI;split
   ·split
    ·exact Int.le_refl _
    ·exact Int.min_le_left ..
   ·exact Int.le_refl _
  exact Int.le_trans h1 h2
theorem np(p:Pt)(k:Nat)(y:Rp)(x:Nat)(A:JY)(c:Nat)(B:JY)(d:Nat)(ys zs:JU):PtL (ip p k y) x A c B d ys zs=PtL p x A c B d ys zs:=by
 simp[PtL,eH,ip]
theorem AK(a b:List Ep)(ae be:Int)(va vb:Value)(G:JT)(ha:SEp G va a)(hb:SEp G vb b)(hla:a.length≤1000000)(hlb:b.length≤1000000):
  FnS Tryz.prog 126 #[va,.int .i64 ae,vb,.int .i64 be] G (.int .i64 (mB a b ae be)):=fun L D=>(Ap a b ae be va vb G ha hb hla hlb L D).mono fun r h' ⟨⟨m,h1,h2⟩,h3⟩=>⟨by rw[h1,sK h2],h3⟩
theorem Bo{G:JT}{l:List Rp}{g d:Nat}{k:Nat}{r:Rp}(h:SlV G (RE G) 7 (.slice (some ⟨g,0,none⟩) l.length d) l)(hr:l[k]?=some r):
  ∃ A c B d,RE G r (fL r A c B d)∧(∀ L D,LdN ⟨G,L,D⟩ (.pointer (some ⟨g,k * 7,none⟩)) (some 7) (.agg (fL r A c B d).toArray))∧∀ L D o u,(fL r A c B d)[o]?=some u→LdN ⟨G,L,D⟩ (.pointer (some ⟨g,k * 7+o,none⟩)) none u:=by
 obtain⟨A0,d0,he,-,-,hA⟩:=h;cases he;obtain⟨a,cs,ha,h1,h2,h4⟩:=hA k r hr;cases ha;have h4:∀ (j:Nat) (u:Value),cs[j]?=some u→fw G ⟨g,k * 7+j,none⟩=some u:=fun j u hu=>by have:=h4 j u hu;rwa [gV]at this
 have h20:=h2;obtain⟨A,c,B,d,rfl,-⟩:=h2;exact⟨A,c,B,d,h20,fun L D=>⟨_,_,rfl,rfl,h1,fun j u hu=>by rw[eS];exact .g (h4 j u hu)⟩,fun L D o u hu=>⟨_,rfl,.g (h4 o u hu)⟩⟩
theorem tf{α β:Type}(f:β→α→β)(b:β){l:List α}{k:Nat}{x:α}(h:l[k]?=some x):(l.take (k+1)).foldl f b=f ((l.take k).foldl f b) x:=by
 rw[List.take_add_one,h];simp
theorem lu(p:Pt)(x:Nat)(A:JY)(c:Nat)(B:JY)(d:Nat)(ys zs:JU)(G:JT)(hy:Cells IE 1 p.isr ys)(hz:Cells (RE G) 7 p.reps zs)(hid:rF p.reps)(hin:∀ n∈p.isr,n∈gz p.reps)(hsm:∀ r∈p.reps,smW r)(hI:rp p):
  FnO Tryz.prog 71 #[.pointer (some ⟨x,0,none⟩)] G (PtL p x A c B d ys zs) (fun G' L' r=>r=.tuple #[]∧∃ zs',L'=PtL (eR p) x A c B d ys zs'∧Cells (RE G') 7 (eR p).reps zs'):=by
 refine F71.fnO (by simp) eT (d7 ?_);unfold c71;intros;refine gR 5 12 c71r0.eq_1 ?_;refine⟨_,dZ (cs:=eH p A c B d) (.head _) rfl,?_⟩;refine sI ?_;refine(s9 p x A c B d ys zs p.leader _ [] (by simp) hy hz hI.2.1 hid).mono ?_;rintro _ _ ⟨rfl,rfl⟩;refine sI ?_;intro b2 hb2;refine ei [] _ rfl (by simp) ⟨rfl,rfl⟩ ?_;refine sI ?_;intros;try refine dU ?_
 have hsame:eR p=p→∀ e L,go none Tryz.prog 60 v71.1 v71.2 (fB o71 fun v h=>v=.tuple #[]∧∃ zs',h.L=PtL (eR p) x A c B d ys zs'∧Cells (RE h.G) 7 (eR p).reps zs') (.s .ret :: L) e ⟨G,.blk b2 [.pointer (uI B (atR p.reps p.leader))] :: PtL p x A c B d ys zs,[]⟩:=fun hr e L=>by
  refine ea (ee (PtL p x A c B d ys zs) rfl (.cons _ J9) eT ⟨rfl,zs,?_,?_⟩)
  ·rw[hr]
  ·rw[hr];exact hz
 intros;refine gR 12 21 c71r1.eq_1 ?_;refine⟨_,dZ (cs:=eH p A c B d) (.tail _ (.head _)) rfl,?_⟩;refine sI ?_;refine gdD (fun k1=>?_) (fun k1=>?_)
 ·refine sI ?_;intros;refine gC ?_;exact hsame (by unfold eR;rw[if_pos k1]) _ _
 refine sI ?_;refine⟨_,dZ (.head _) rfl,?_⟩;refine sJ @za ?_;cases hk:atR p.reps p.leader with
 | none =>
  rw[hk]at hsame;have hpt:uI B none=none:=rfl;refine sJ @hpt ?_;intros;refine gC ?_;refine hsame ?_ _ _;unfold eR;rw[if_neg k1,hk]
 | some k =>
  obtain⟨r,hr,-⟩:=iU hk;clear hsame;have hst:eR p=ip p k { r with high:=max r.high (gh p.reps k r (fD r.log) p.isr) }:=by
   unfold eR;rw[if_neg k1,hk];dsimp only;rw[hr];rfl
  rw[hst];clear hst;have hkl:=(List.getElem?_eq_some_iff.1 hr).1;intros;refine eI (jK (.tail _ (.tail _ (.head _))) (by omega)) ?_;rintro h' ⟨rfl,g,c9,he,-,-⟩;cases he;have hpt:uI (some ⟨g,0,none⟩) (some k)=some ⟨g,k * 7,none⟩:=congrArg some (gV _ _);rw[hpt];intros;refine gC ?_;intros;refine gN ?_;obtain⟨cs,hre,hcl,hld⟩:=hz.get hr;have hre0:=hre;have hsr:=hsm r (mem_of_getElem? hr)
  have hend:=ji r cs G hre hsr.1 (by have:=hsr.2.1;omega);obtain⟨A1,c1,B1,d1,rfl,-⟩:=hre;intros;refine gR 22 26 c71r2.eq_1 ?_;refine⟨_,dZ (.head _) rfl,?_⟩;refine sI ?_;refine⟨_,ic (.tail _ (.tail _ (.head _))) hcl hld,?_⟩;unfold fL at hend ⊢;refine sI ?_;refine fK (hend _ _) ?_;intro b3 hb3;refine ei [] _ rfl (by simp) ⟨rfl,rfl⟩ ?_;refine sI ?_;intros;try refine dU ?_
  intros;try refine dU ?_
  intros;refine gR 26 27 c71r3.eq_1 ?_;refine(pY p x G _ _).mono ?_;rintro rr h' ⟨G1,rfl,hg1,b4,rfl,hb4⟩;refine sI ?_;intros;have hz1:=eU hz fun _ _ h=>RE.le hg1 h
  refine dW (h':=⟨G1,PtL p x A c (some ⟨g,0,none⟩) d ys zs++[.blk b3 [.int .i64 (fD r.log)],.blk b2 [.pointer (some ⟨g,k * 7,none⟩)]],[]⟩) (eL (List.perm_append_comm (l₁:=[_,_]))) ?_;refine Du eT (xF hy hz1) fun G2 hg2 hpt2=>?_
  refine tM ?_;have hb42:=em hg2 hb4;have hit:=mn p x b4 A c _ d G2 hpt2 hid hb42;refine r9 (α:=Int) (fun t G' L'=>L'=[.blk b3 [.int .i64 (gh p.reps k r (fD r.log) (p.isr.take t))],.blk b2 [.pointer (some ⟨g,k * 7,none⟩)]]) (fun _ _ _ _=>False) (eE) F111.enters (ec (ec dS)) (fun _ _ _ _ _ h=>h) hit (fun G x args h=>by cases h;rfl) rfl ?_ ?_ ?_
  ·rintro yl t n args G' L' hx hgl rfl rfl _;obtain⟨i,y,hi,hiy,hyn⟩:=ml (hin n (mem_of_getElem? hx));have hpti:uI (some ⟨g,0,none⟩) (some i)=some ⟨g,i * 7,none⟩:=congrArg some (gV _ _);have hleast:gh p.reps k r (fD r.log) (p.isr.take (t+1))=nI p.reps k r (gh p.reps k r (fD r.log) (p.isr.take t)) n:=tf _ _ hx;rw[hi,hpti];generalize gh p.reps k r (fD r.log) (p.isr.take t)=lt at *
   generalize gh p.reps k r (fD r.log) (p.isr.take (t+1))=lt' at *;refine sI ?_;intros;refine gR 0 0 c71r4.eq_1 ?_;intro bb;refine gv (sq ?_);intros;try refine dU ?_
   intros;refine gR 29 31 c71r5.eq_1 ?_;refine⟨_,dZ (.tail _ (.head _)) rfl,?_⟩;refine sJ @E1 ?_;intros;refine gC ?_;refine gb (fun k2=>?_) (fun k2=>?_)
   ·have k2:¬ i=k:=fun h=>by subst h;simp at k2
    have hstep:lt'=min lt (mB y.eps r.eps (fD y.log) (fD r.log)):=by
     rw[hleast];unfold nI;rw[hi];dsimp only;rw[if_neg k2,hiy];rfl
    have hsv:=(hpt2.le hgl).2.2;have hsy:=hsm y (mem_of_getElem? hiy);obtain⟨A2,c2,B2,d2,hre2,hl2,hf2⟩:=Bo hsv hiy;obtain⟨A3,c3,B3,d3,hre3,hl3,hf3⟩:=Bo hsv hr;have hendy:=ji y _ G' hre2 hsy.1 (by have:=hsy.2.1;omega);have hendr:=ji r _ G' hre3 hsr.1 (by have:=hsr.2.1;omega)
    have hmeet:FnS Tryz.prog 126 #[.slice B2 y.eps.length d2,.int .i64 (fD y.log),.slice B3 r.eps.length d3,.int .i64 (fD r.log)] G' (.int .i64 (mB y.eps r.eps (fD y.log) (fD r.log))):=by
     obtain⟨_,_,_,_,he2,_,hs2,_⟩:=hre2;obtain⟨_,_,_,_,he3,_,hs3,_⟩:=hre3;unfold fL at he2 he3;cases he2;cases he3;exact AK _ _ _ _ _ _ _ hs2 hs3 (by have:=hsy.2.2;omega) (by have:=hsr.2.2;omega)
    unfold fL at hendy hendr hl2 hl3;intros;refine dT ?_;refine zt _ J9 (by decide) ?_;refine sJ c71r6.eq_1 ?_;refine⟨_,dZ (.head _) rfl,?_⟩;refine sI ?_;refine⟨_,hf2 _ _ 5 _ rfl,?_⟩;refine sI ?_;refine⟨_,hl2 _ _,?_⟩;refine sI ?_;refine⟨_,dZ (.tail _ (.head _)) rfl,?_⟩;refine sI ?_;refine⟨_,hf3 _ _ 5 _ rfl,?_⟩;refine sI ?_;refine⟨_,dZ (.tail _ (.head _)) rfl,?_⟩;refine sI ?_;refine⟨_,hl3 _ _,?_⟩
    refine sI ?_;refine fK (hendy _ _) ?_;refine fK (hendr _ _) ?_;refine fK (hmeet _ _) ?_;rw[← hstep];refine sJ c71r7.eq_1 ?_;refine ei [] _ rfl (by simp) ⟨rfl,rfl⟩ ?_;refine sI ?_;intros;refine gN ?_;refine gv (qO _ J9 (ec (ec dS)) rfl)
   ·have k2:i=k:=by simp at k2;omega
    subst k2;have hstep:lt'=lt:=by
     rw[hleast];unfold nI;rw[hi];dsimp only;rw[if_pos rfl]
    subst hstep;intros;refine gN ?_;refine gv (qO _ J9 (ec (ec dS)) rfl)
  ·rintro G' L' dd hgl rfl _;refine iV ?_;refine gv ⟨_,_,_,rfl,?_⟩;rw[take_length];have hlt:=qS p.reps k r p.isr (fD r.log);have hel:=m6 r.log;generalize gh p.reps k r (fD r.log) p.isr=lt at *
   have hrow:Item.row (.slice (some ⟨g,0,none⟩) p.reps.length d) 50 7 p.reps.length zs∈PtL p x A c (some ⟨g,0,none⟩) d ys zs++[.blk b3 [.int .i64 lt],.blk b2 [.pointer (some ⟨g,k * 7,none⟩)]]:=.tail _ (.head _);have hz6:=hld 6 _ rfl;refine(?_:go none Tryz.prog 60 v71.1 v71.2 _ [.s (SC.rgT c71r8 c71r9)] _ _);intros;refine dT ?_;refine Ei (by decide) ?_;refine sJ c71r8.eq_1 ?_
   refine⟨_,dZ (.tail _ (.tail _ (.tail _ (.tail _ (.head _))))) rfl,?_⟩;refine sI ?_;refine⟨_,dZ (.tail _ (.tail _ (.tail _ (.tail _ (.head _))))) rfl,?_⟩;refine sI ?_;refine⟨_,fj hrow hz6,?_⟩;refine sI ?_;refine⟨_,dZ (.tail _ (.tail _ (.tail _ (.head _)))) rfl,?_⟩;refine sJ c71r9.eq_1 ?_;refine fZ [_] _ rfl (by simp;have:=hz.len;omega) ⟨rfl,rfl⟩ ?_;refine sI ?_
   refine gv ⟨[],rfl,⟨G1,PtL (ip p k { r with high:=max r.high lt }) x A c (some ⟨g,0,none⟩) d ys (eu zs (k * 7+6) [.int .i64 (max r.high lt)]),[]⟩,?_,eT,rfl,_,rfl,?_⟩
   ·rw[np];exact dY (List.sublist_append_left _ _)
   ·refine Cells.setF hz1 hr (by simp) fun cs h hl=>?_
    obtain⟨A5,c5,B5,d5,rfl,q1,q2,q3,q4,q5⟩:=h;exact⟨A5,c5,B5,d5,rfl,q1,q2,q3,q4,by unfold I64 at q5 ⊢;show _≤max r.high lt∧max r.high lt≤_;omega⟩
  ·rintro ex i G' L' d _ _ h;exact h.elim
theorem F48:Fun Tryz.prog 48 8 v48 c48 o48:=Fun.mkA Tryz.func48 Tryz.ntmps48
theorem F116:Fun Tryz.prog 116 8 v116 c116 o116:=Fun.mkA Tryz.func116 Tryz.ntmps116
theorem F65:Fun Tryz.prog 65 37 v65 c65 o65:=Fun.mkA Tryz.func65 Tryz.ntmps65
theorem F80:Fun Tryz.prog 80 13 v80 c80 o80:=Fun.mkA Tryz.func80 Tryz.ntmps80
theorem F134:Fun Tryz.prog 134 15 v134 c134 o134:=Fun.mkA Tryz.func134 Tryz.ntmps134
theorem qo(l:J6)(v:Value)(G:JT)(hl:SlV G IE 1 v l)(hb:l.length≤100000):FnO Tryz.prog 48 #[v] G [] (fun _ L' r=>wU IE 3 1 l L' r):=by
 refine F48.fnO (by simp) dS (d7 ?_);have hl0:=hl;obtain⟨A,c,rfl,hc,hm,hA⟩:=hl;unfold c48;intros;refine gR 0 0 c48r0.eq_1 ?_;intros;refine gR 3 4 c48r1.eq_1 ?_;intros;refine gC ?_;refine gb (fun ht=>?_) (fun ht=>?_)
 ·intros;refine gR 0 0 c48r2.eq_1 ?_;intros;refine dT ?_;have hA0:l=[]:=by
   match l,hA with
   | [],_=>rfl
   | x :: xs,hA=>obtain⟨a,_,ha,_⟩:=hA 0 x rfl;subst ha;cases ht
  subst hA0;refine dW (ew none 3 1) ?_;refine ea (ee _ rfl J9 (dV dS) ?_);exact⟨[],.nil,rfl⟩
 ·intros;refine gN ?_;intros;refine gR 5 8 c48r3.eq_1 ?_;intro b hb';refine ki (.inr ⟨⟨_,rfl⟩,rfl,rfl,rfl,rfl⟩) hl0 rfl IE1 ⟨by omega,by unfold maxLen;omega⟩ fun ys A c hc=>?_
  simp only[Nat.zero_add];refine sI ?_;intros;refine dT ?_;refine ea (ee _ rfl J9 (dV dS) ?_);exact⟨ys,hc,rfl⟩
theorem ui(l:List Rp)(v:Value)(G:JT)(hl:SlV G (RE G) 7 v l)(hb:l.length≤100000):FnO Tryz.prog 116 #[v] G [] (fun _ L' r=>wU (RE G) 50 7 l L' r):=by
 refine F116.fnO (by simp) dS (d7 ?_);have hl0:=hl;obtain⟨A,c,rfl,hc,hm,hA⟩:=hl;unfold c116;intros;refine gR 0 0 c116r0.eq_1 ?_;intros;refine gR 3 4 c116r1.eq_1 ?_;intros;refine gC ?_;refine gb (fun ht=>?_) (fun ht=>?_)
 ·intros;refine gR 0 0 c116r2.eq_1 ?_;intros;refine dT ?_;have hA0:l=[]:=by
   match l,hA with
   | [],_=>rfl
   | x :: xs,hA=>obtain⟨a,_,ha,_⟩:=hA 0 x rfl;subst ha;cases ht
  subst hA0;refine dW (ew none 50 7) ?_;refine ea (ee _ rfl J9 (dV dS) ?_);exact⟨[],.nil,rfl⟩
 ·intros;refine gN ?_;intros;refine gR 5 8 c116r3.eq_1 ?_;intro b hb';refine ki (.inr ⟨⟨_,rfl⟩,rfl,rfl,rfl,rfl⟩) hl0 rfl RE1 ⟨by omega,by unfold maxLen;omega⟩ fun ys A c hc=>?_
  simp only[Nat.zero_add];refine sI ?_;intros;refine dT ?_;refine ea (ee _ rfl J9 (dV dS) ?_);exact⟨ys,hc,rfl⟩
def Av(q:Pt × Int)(x:Nat)(CE:JW→Prop)(G':JT)(L':JW)(r:Value):Prop :=
 r=.int .i64 q.2∧∃ K C',L'=K++C'∧CE C'∧(q.2≠0→K=[])∧(q.2=0→∃ A c B d ys zs,K=PtL q.1 x A c B d ys zs∧Cells IE 1 q.1.isr ys∧Cells (RE G') 7 q.1.reps zs∧rp q.1)
def DM(G0:JT)(g:Nat)(cap:Array Value)(p:Pt)(q:Pt × Int)(C0:JW)(CE:JW→Prop):Prop :=
 ∀ G x A c B d ys zs,Gle G0 G→Cells IE 1 p.isr ys→Cells (RE G) 7 p.reps zs→FnO Tryz.prog g (#[.pointer (some ⟨x,0,none⟩)]++cap) G (PtL p x A c B d ys zs++C0) (fun G' L' r=>Av q x CE G' L' r)
noncomputable def nL(p:Pt)(q:Pt × Int):Pt × Int:=if fI p=0 then(if q.2=0 then(q.1,0)else(j5,q.2))else(j5,fI p)
def PtR(q:Pt × Int)(G:JT)(r:Value):Prop:=∃ cs,r=.tuple #[.agg cs.toArray,.int .i64 q.2]∧PE G q.1 cs
theorem nD(G:JT)(e:Int):PtR (j5,e) G (.tuple #[.agg #[.int .i64 0,.int .i64 0,.int .i64 0,.slice none 0 0,.slice none 0 0],.int .i64 e]) :=
 ⟨_,rfl,none,0,none,0,rfl,slN,slN,iH,iH,iH⟩
theorem lk{h:H}{b o k:Nat}{cs us:JU}(hm:Item.blk b cs∈h.L)(hl:us.length=k)(hv:∀ j u,us[j]?=some u→cs[o+j]?=some u):LdN h (.pointer (some ⟨b,o,none⟩)) (some k) (.agg us.toArray) :=
 ⟨_,us,rfl,rfl,hl,fun j u hu=>by rw[eS];exact .blk hm (hv j u hu)⟩
theorem pZ(p:Pt)(cs:JU)(g:Nat)(cap:Array Value)(q:Pt × Int)(C0:JW)(CE:JW→Prop)(G:JT)(hp:PE G p cs)(hsm:smP p)(hn0:ez C0)(hCE:∀ C,CE C→ez C)
  (hdo:okP p→DM G g cap p q C0 CE) :
  FnO Tryz.prog 65 #[.agg cs.toArray,.func (.func g) #[] cap] G C0 (fun G' L' r=>PtR (nL p q) G' r∧ez L'∧(CE L'∨(fI p≠0∧L'=C0))):=by
 have hchk:=jm p cs G hp hsm;have hp0:=hp;obtain⟨A,c,B,d,rfl,hI,hR,hi1,hi2,hi3⟩:=hp;have h2:=mu (s:=2) hn0;have h4:=mu (s:=4) hn0;refine F65.fnO (by simp) hn0 (d7 ?_);unfold c65;unfold eH at hchk hp0 ⊢;intros;refine gr 0 0 ?_;refine sJ3 c65r0.eq_1 @h2 @h4 ?_;intros;try refine dU ?_
 intros;try refine dU ?_
 intros;refine gR 9 11 c65r1.eq_1 ?_;refine fK (hchk _ _) ?_;intros;try refine dU ?_
 intros;refine gR 11 12 c65r2.eq_1 ?_;intros;refine gC ?_;refine gb (fun k1=>?_) (fun k1=>?_)
 ·have k1:=Kb k1;intros;refine gR 13 15 c65r3.eq_1 ?_;intros;refine ea (ee C0 rfl (.cons _ (.cons _ J9)) hn0 ⟨?_,hn0,.inr ⟨k1,rfl⟩⟩);rw[nL,if_neg k1];exact nD _ _
 have k1:fI p=0:=by simpa using k1
 have hok:=nH k1;obtain⟨hs1,hs2,hs3⟩:=hsm;intros;refine gN ?_;intros;try refine dU ?_
 have hcr:=ui p.reps _ G hR (by omega);intros;refine dT ?_;refine zt _ J9 (by decide) ?_;refine sJ c65r4.eq_1 ?_;refine(jh hcr _ _).mono ?_;rintro r h' ⟨G1,L',rfl,hg1,B1,d1,zs,rfl,-,hzs,rfl⟩;refine sI ?_;refine⟨ed hg1 (.cons _ J9),?_⟩;refine(jh (qo p.isr _ G1 (hI.le (E':=IE) hg1 Kd) (by omega)) _ _).mono ?_;rintro r h' ⟨G2,L',rfl,hg2,A2,c2,ys,rfl,-,hys,rfl⟩;have hg02:=hg1.trans hg2;refine sI ?_
 refine⟨ed hg02 (.cons _ (.cons _ J9)),?_⟩;refine sJ c65r5.eq_1 ?_;intros;try refine dU ?_
 intros;refine gR 23 26 c65r6.eq_1 ?_;intro x hx;refine sI ?_;have hz2:=eU hzs fun _ _ h=>RE.le hg02 h
 have hfn:=hdo hok G2 x A2 c2 B1 d1 ys zs hg02 hys hz2;intros;try refine dU ?_
 intros;try refine dU ?_
 refine dW (h':=⟨G2,(PtL p x A2 c2 B1 d1 ys zs++C0)++[.reg 4 [.int .i64 0,.int .i64 0,.int .i64 0,.slice none 0 0,.slice none 0 0],.reg 2 [.int .i64 p.epoch,.int .i64 p.leader,.int .i64 p.least,.slice A2 p.isr.length c2,.slice B1 p.reps.length d1]],[]⟩) (eL (.cons _ ((List.Perm.swap _ _ _).trans (.cons _ (.cons _ (List.perm_append_comm (l₁:=[_,_]) (l₂:=C0))))))) ?_
 intros;refine gR 26 29 c65r7.eq_1 ?_;refine .inl ⟨g,cap,rfl,?_⟩;refine(hfn _ _).mono ?_;rintro r h' ⟨G3,L3,rfl,hg3,rfl,K,C',rfl,hce,hk1,hk2⟩;have hnc:=hCE C' hce;refine sI ?_;intros
 refine dW (h':=⟨G3,[.reg 4 [.int .i64 0,.int .i64 0,.int .i64 0,.slice none 0 0,.slice none 0 0],.reg 2 [.int .i64 p.epoch,.int .i64 p.leader,.int .i64 p.least,.slice A2 p.isr.length c2,.slice B1 p.reps.length d1]]++(K++C'),[]⟩) (eL List.perm_append_comm) ?_;intros;try refine dU ?_
 intros;refine gR 29 30 c65r8.eq_1 ?_;intros;refine gC ?_;refine gb (fun k2=>?_) (fun k2=>?_)
 ·have k2:=Kb k2;have:=hk1 k2;subst this;intros;refine gR 31 33 c65r9.eq_1 ?_;intros;refine ea (ee C' rfl (.cons _ (.cons _ J9)) hnc ⟨?_,hnc,.inl hce⟩);rw[nL,if_pos k1,if_neg k2];exact nD _ _
 have k2:q.2=0:=by simpa using k2
 obtain⟨A4,c4,B4,d4,ys4,zs4,rfl,hy4,hz4,hi4⟩:=hk2 k2;intros;refine gN ?_;intros;try refine dU ?_
 refine eI (ef [_,_,_] _ (by decide) hz4) ?_;rintro h' ⟨G4,rfl,hg4,hv4⟩;refine eI (ef [_,_,_] _ (by decide) hy4) ?_;rintro h' ⟨G5,rfl,hg5,hv5⟩;intros;refine gR 33 37 c65r10.eq_1 ?_;refine⟨_,lk (cs:=eH q.1 A4 c4 B4 d4) (us:=eH q.1 A4 c4 B4 d4) (.tail _ (.tail _ (.head _))) rfl (fun j u h=>by rw[Nat.zero_add];exact h),?_⟩;unfold eH;refine sI ?_;intros
 refine ea (ee C' rfl (.cons _ (.cons _ (.cons _ J9))) hnc ⟨?_,hnc,.inl hce⟩);rw[nL,if_pos k1,if_pos k2];exact⟨_,rfl,A4,c4,B4,d4,rfl,hv5,SlR.le hg5 (hv4.le (.refl _) fun _ _ h=>RE.le hg4 h),hi4⟩
noncomputable def ofQ(p:Pt)(n:Int)(f:Nat→Rp→Pt × Int):Pt × Int :=
 match atR p.reps n with
 | none=>(p,1)
 | some k=>match p.reps[k]? with
  | none=>(p,1)
  | some r=>f k r
theorem jS(p:Pt)(n:Int)(f:Pt→Nat→Rp→Pt × Int):ofP p n f=nL p (ofQ p n (f p)):=rfl
theorem Ey{p:Pt}{n:Int}(f:Nat→Rp→Pt × Int)(h:atR p.reps n=none):ofQ p n f=(p,1):=by unfold ofQ;rw[h]
theorem nQ{p:Pt}{n:Int}(f:Nat→Rp→Pt × Int){k:Nat}{r:Rp}(h:atR p.reps n=some k)(hr:p.reps[k]?=some r):ofQ p n f=f k r:=by
 unfold ofQ;rw[h];dsimp only;rw[hr]
def nT(G0:JT)(g:Nat)(cap:Array Value)(p:Pt)(k:Nat)(q:Pt × Int):Prop :=
 ∀ G x A c ga d ys zs,Gle G0 G→Cells IE 1 p.isr ys→Cells (RE G) 7 p.reps zs→FnO Tryz.prog g (#[.pointer (some ⟨x,0,none⟩),.pointer (some ⟨ga,k * 7,none⟩)]++cap) G (PtL p x A c (some ⟨ga,0,none⟩) d ys zs) (fun G' L' r=>Av q x (· = []) G' L' r)
theorem g9{p:Pt}(h:okP p):rF p.reps:=⟨h.1.2.1.2.2,fun r hr=>(h.1.2.2.2.2 r hr).1.1⟩
theorem Es(p:Pt)(n:Int)(g:Nat)(cap:Array Value)(f:Nat→Rp→Pt × Int)(b4 b5:Nat)(G:JT)(hok:okP p)(hn:I64 n)(h4:fw G ⟨b4,0,none⟩=some (.int .i64 n))(h5:fw G ⟨b5,0,none⟩=some (.func (.func g) #[] cap))
  (hdo:∀ k r,atR p.reps n=some k→p.reps[k]?=some r→nT G g cap p k (f k r)):DM G 134 #[.pointer (some ⟨b4,0,none⟩),.pointer (some ⟨b5,0,none⟩)] p (ofQ p n f) [] (· = []):=by
 intro G1 x A c B d ys zs hg hy hz;have h4:=em hg h4;have h5:=em hg h5;rw[append_nil];refine F134.fnO (by simp) eT (d7 ?_);unfold c134;intros;refine gR 0 0 c134r0.eq_1 ?_;intros;refine gR 6 9 c134r1.eq_1 ?_;refine⟨_,⟨_,rfl,.g h4⟩,?_⟩;refine sI ?_;refine(s9 p x A c B d ys zs n _ [] (by simp) hy hz hn (g9 hok)).mono ?_;rintro _ _ ⟨rfl,rfl⟩;refine sI ?_;intros;try refine dU ?_
 cases hk:atR p.reps n with
 | none =>
  have hpt:uI B none=none:=rfl;rw[hpt];intros;try refine dU ?_
  intros;refine gR2 9 10 c134r2.eq_1 @za ?_;intros;refine gC ?_;intros;refine gR 0 0 c134r3.eq_1 ?_;intros;refine ea (ee [] rfl Ka dS ⟨?_,[],[],rfl,rfl,fun _=>rfl,fun h=>?_⟩)
  ·rw[Ey f hk];rfl
  ·rw[Ey f hk]at h;cases h
 | some k =>
  obtain⟨r,hr,-⟩:=iU hk;have hkl:=(List.getElem?_eq_some_iff.1 hr).1;intros;refine eI (jK (.tail _ (.head _)) (by omega)) ?_;rintro h' ⟨rfl,ga,c9,he,-,-⟩;cases he;have hpt:uI (some ⟨ga,0,none⟩) (some k)=some ⟨ga,k * 7,none⟩:=congrArg some (gV _ _);rw[hpt];have hfn:=hdo k r hk hr G1 x A c ga d ys zs hg hy hz;intros;try refine dU ?_
  intros;refine gR2 9 10 c134r2.eq_1 @za ?_;intros;refine gC ?_;intros;refine gN ?_;intros;refine gR 11 15 c134r4.eq_1 ?_;refine⟨_,⟨_,rfl,.g h5⟩,?_⟩;refine sI ?_;refine .inl ⟨g,cap,rfl,?_⟩;rw[← append_nil (PtL p x A c (some ⟨ga,0,none⟩) d ys zs)];refine(hfn _ _).mono ?_;rintro r' h' ⟨G3,L3,rfl,hg3,rfl,K,C',rfl,rfl,hk1,hk2⟩;rw[append_nil,append_nil];refine sI ?_;intros
  have hnk:ez K:=by
   by_cases k2:(f k r).2=0
   ·obtain⟨A4,c4,B4,d4,ys4,zs4,rfl,-⟩:=hk2 k2;exact eT
   ·rw[hk1 k2];exact dS
  refine ea (ee K rfl J9 hnk ⟨?_,K,[],(append_nil K).symm,rfl,?_,?_⟩)
  ·rw[nQ f hk hr];rfl
  ·rw[nQ f hk hr];exact hk1
  ·rw[nQ f hk hr];exact hk2
theorem DM.le{G0 G1:JT}(hg:Gle G0 G1){g:Nat}{cap:Array Value}{p:Pt}{q:Pt × Int}{C0:JW}{CE:JW→Prop}(h:DM G0 g cap p q C0 CE):DM G1 g cap p q C0 CE :=
 fun G x A c B d ys zs h1=>h G x A c B d ys zs (hg.trans h1)
theorem nT.le{G0 G1:JT}(hg:Gle G0 G1){g:Nat}{cap:Array Value}{p:Pt}{k:Nat}{q:Pt × Int}(h:nT G0 g cap p k q):nT G1 g cap p k q :=
 fun G x A c ga d ys zs h1=>h G x A c ga d ys zs (hg.trans h1)
theorem xS(p:Pt)(cs:JU)(n:Int)(g:Nat)(cap:Array Value)(f:Nat→Rp→Pt × Int)(G:JT)(hp:PE G p cs)(hsm:smP p)(hn:I64 n)
  (hdo:okP p→∀ k r,atR p.reps n=some k→p.reps[k]?=some r→nT G g cap p k (f k r)) :
  FnD Tryz.prog 80 #[.agg cs.toArray,.int .i64 n,.func (.func g) #[] cap] G (PtR (nL p (ofQ p n f))):=by
 have hp0:=hp;obtain⟨A,c,B,d,rfl,-⟩:=hp;refine F80.fnD (by simp) (d7 ?_);unfold c80;unfold eH at hp0 ⊢;intros;refine gR 0 0 c80r0.eq_1 ?_;intro b4 hb4 b5 hb5;refine sI ?_;intros;refine eI (eO [_] _) ?_;rintro h' ⟨G1,rfl,hg1,f5⟩;refine eI (eO [_] _) ?_;rintro h' ⟨G2,rfl,hg2,f4⟩;have f5:=em hg2 (f5 0 _ rfl);have f4:=f4 0 _ rfl;rw[eS]at f4 f5;have hg02:=hg1.trans hg2
 have hch:=pZ p _ 134 #[.pointer (some ⟨b4,0,none⟩),.pointer (some ⟨b5,0,none⟩)] (ofQ p n f) [] (· = []) G2 (hp0.le hg02) hsm dS (fun C h=>by rw[h];exact dS) fun hok =>
  Es p n g cap f b4 b5 G2 hok hn f4 f5 fun k r hk hr=>(hdo hok k r hk hr).le hg02
 intros;try refine dU ?_
 intros;refine gR 8 13 c80r1.eq_1 ?_;refine(hch _ _).mono ?_;rintro r h' ⟨G3,L3,rfl,hg3,⟨cs3,rfl,hpe⟩,-,hL⟩;have hL:L3=[]:=by
  rcases hL with h | ⟨-,h⟩ <;> exact h
 subst hL;have hpe0:=hpe;obtain⟨A3,c3,B3,d3,rfl,-⟩:=hpe;unfold eH at hpe0 ⊢;refine sI ?_;intros;refine rW ?_;exact⟨_,rfl,hpe0⟩
theorem F37:Fun Tryz.prog 37 12 v37 c37 o37:=Fun.mkA Tryz.func37 Tryz.ntmps37
theorem F91:Fun Tryz.prog 91 45 v91 c91 o91:=Fun.mkH Tryz.func91 Tryz.ntmps91 (by kernel_rfl) (by kernel_rfl) s91 q91
theorem hX(p:Pt):(eR p).epoch=p.epoch∧(eR p).leader=p.leader∧(eR p).least=p.least∧(eR p).isr=p.isr∧(eR p).reps.length=p.reps.length:=by
 unfold eR;split
 ·exact⟨rfl,rfl,rfl,rfl,rfl⟩
 ·split
  ·exact⟨rfl,rfl,rfl,rfl,rfl⟩
  ·split
   ·exact⟨rfl,rfl,rfl,rfl,rfl⟩
   ·exact⟨rfl,rfl,rfl,rfl,List.length_set ..⟩
theorem la{p:Pt}(h:rp p):rp (eR p):=by
 obtain⟨h1,h2,h3,-⟩:=hX p;unfold rp;rw[h1,h2,h3];exact h
theorem oJ{p:Pt}{e:Int}(x:Nat)(G:JT)(h:e≠0):Av (p,e) x (· = []) G [] (.int .i64 e):=⟨rfl,[],[],rfl,rfl,fun _=>rfl,fun h2=>absurd h2 h⟩
theorem vO{p:Pt}{x:Nat}{G:JT}{A:JY}{c:Nat}{B:JY}{d:Nat}{ys zs:JU}(hy:Cells IE 1 p.isr ys)(hz:Cells (RE G) 7 p.reps zs)(hi:rp p):
  Av (p,0) x (· = []) G (PtL p x A c B d ys zs) (.int .i64 0):=⟨rfl,_,[],(append_nil _).symm,rfl,fun h=>absurd rfl h,fun _=>⟨A,c,B,d,ys,zs,rfl,hy,hz,hi⟩⟩
theorem mo(l:J6)(n:Int)(A:JY)(c:Nat)(ys:JU)(h:H)(L:JW)(hL:h.L.Perm (.row (.slice A l.length c) 3 1 l.length ys :: L))(hy:Cells IE 1 l ys):
  eP Tryz.prog 58 #[.slice A l.length c,.int .i64 n] h fun r h'=>r=.bool (decide (n∈l))∧h'=h :=
 jd (L1:=[_]) (M:=fun G=>SlV G IE 1 (.slice A l.length c) l) (dV dS) F58.enters hL (jn (M1:=fun G=>SlV G IE 1 (.slice A l.length c) l) (fun L=>kl (by decide) hy) fun G' _ h=>mJ h) fun G' hg hp=>kp l n _ G' hp L h.D
theorem xO(p:Pt)(n:Int)(b3 k:Nat)(r:Rp)(G:JT)(hok:okP p)(hsm:smP p)(hI:rp p)(hn:I64 n)(h3:fw G ⟨b3,0,none⟩=some (.int .i64 n))(hr:p.reps[k]?=some r):
  nT G 91 #[.pointer (some ⟨b3,0,none⟩)] p k (jR n p k r):=by
 intro G1 x A c ga d ys zs hg hy hz;have h3:=em hg h3;obtain⟨cs,hre,hcl,hld⟩:=hz.get hr;obtain⟨A1,c1,B1,d1,rfl,-⟩:=hre;rw[show(#[.pointer (some ⟨x,0,none⟩),.pointer (some ⟨ga,k * 7,none⟩)]++#[.pointer (some ⟨b3,0,none⟩)]:Array Value)=#[.pointer (some ⟨x,0,none⟩),.pointer (some ⟨ga,k * 7,none⟩),.pointer (some ⟨b3,0,none⟩)]from rfl];refine F91.fnO (by simp) eT (d7 ?_);unfold c91
 intros;refine gR 0 0 c91r0.eq_1 ?_;intros;refine dT ?_;intros;refine gR 7 12 c91r1.eq_1 ?_;refine⟨_,fj (.tail _ (.head _)) (hld 1 _ rfl),?_⟩;refine sI ?_;intros;refine gC ?_;refine gb (fun k1=>?_) (fun k1=>?_)
 ·have k1:r.up=false:=by simpa using k1
  intros;refine gR 0 0 c91r2.eq_1 ?_;intros;refine ea (ee [] rfl Ka dS ?_);rw[jR,if_pos k1];exact oJ x _ (by decide)
 have k1:¬ r.up=false:=by simpa using k1
 intros;try refine dU ?_
 intros;refine dT ?_;refine ly _ J9 (by decide) ?_;refine sJ c91r3.eq_1 ?_;refine⟨_,dZ (cs:=eH p A c (some ⟨ga,0,none⟩) d) (.head _) rfl,?_⟩;refine sI ?_;refine⟨_,⟨_,rfl,.g h3⟩,?_⟩;refine sI ?_
 (refine fK (mo p.isr n A c ys _ _ (List.perm_append_comm (l₁:=[_,_]) (l₂:=[_])) hy) ?_)
 intros;refine gC ?_;refine gb (fun k2=>?_) (fun k2=>?_)
 ·have k2:n∉p.isr:=by simpa using k2
  intros;refine gR 0 0 c91r4.eq_1 ?_;intros;refine ea (ee [] rfl Ka dS ?_);rw[jR,if_neg k1,if_pos k2];exact oJ x _ (by decide)
 have k2:n∈p.isr:=by simpa using k2
 intros;try refine dU ?_
 intros;refine gR 22 28 c91r5.eq_1 ?_;refine⟨_,dZ (cs:=eH p A c (some ⟨ga,0,none⟩) d) (.head _) rfl,?_⟩;refine sI ?_;intros;refine gC ?_;refine gbD (fun k3=>?_) (fun k3=>?_)
 ·intros;refine gR 0 0 c91r6.eq_1 ?_;intros;refine ea (ee [] rfl Ka dS ?_);rw[jR,if_neg k1,if_neg (fun h=>h k2),if_pos k3];exact oJ x _ (by decide)
 have hep:0≤p.epoch∧p.epoch≤1048576:=by have:=hok.1.1;simpa [idI]using this
 have hw:IntKind.i64.wrap (p.epoch+1)=p.epoch+1:=by rw[eh] <;> omega
 have hq:jR n p k r=(eR { p with epoch:=p.epoch+1,leader:=n },0):=by rw[jR,if_neg k1,if_neg (fun h=>h k2),if_neg k3]
 rw[hq];have hi2:rp { p with epoch:=p.epoch+1,leader:=n }:=⟨by unfold I64;show _≤p.epoch+1∧p.epoch+1≤_;omega,hn,hI.2.2⟩;have hraise:=fun zs' hz'=>lu { p with epoch:=p.epoch+1,leader:=n } x A c (some ⟨ga,0,none⟩) d ys zs' G1 hy hz' (g9 (p:=p) hok) hok.2.1.2 (qt hsm.1) hi2
 have hraise:=hraise zs hz;generalize hp2:({ p with epoch:=p.epoch+1,leader:=n }:Pt)=p2 at *;intros;refine gN ?_;intros;try refine dU ?_
 refine eK (fun e h=>e 0=.pointer (some ⟨x,0,none⟩)∧h=⟨G1,PtL p2 x A c (some ⟨ga,0,none⟩) d ys zs,[]⟩) ?_ ?_
 ·intros;refine dT ?_;refine yY _ Ka (by decide) ?_;refine sJ c91r7.eq_1 ?_;refine⟨?_,?_⟩
  ·refine⟨_,dZ (cs:=eH p A c (some ⟨ga,0,none⟩) d) (.head _) rfl,?_⟩;refine sJ @hw ?_;refine⟨ed Kd Ka,?_⟩;refine sJ @hw ?_;refine⟨?_,?_⟩
   ·refine⟨_,⟨_,rfl,.g h3⟩,?_⟩;refine sJ @hw ?_;refine⟨ed Kd Ka,?_⟩;refine sJ @hw ?_;refine ei [] _ rfl (by simp[eH,eu]) ⟨rfl,rfl⟩ ?_;refine sJ @hw ?_;refine⟨ed Kd Ka,?_⟩;refine sJ @hw ?_;refine ei [] _ rfl (by simp[eH,eu]) ⟨rfl,rfl⟩ ?_;refine sJ @hw ?_;refine⟨ed Kd Ka,?_⟩;refine sJ @hw ?_;exact eC ⟨eE,by rw[← hp2];rfl⟩
   ·refine ei [] _ rfl (by simp[eH,eu]) ⟨rfl,rfl⟩ ?_;refine sJ @hw ?_;refine⟨ed Kd Ka,?_⟩;refine sJ @hw ?_;refine⟨_,⟨_,rfl,.g h3⟩,?_⟩;refine sJ @hw ?_;refine⟨ed Kd Ka,?_⟩;refine sJ @hw ?_;refine ei [] _ rfl (by simp[eH,eu]) ⟨rfl,rfl⟩ ?_;refine sJ @hw ?_;refine⟨ed Kd Ka,?_⟩;refine sJ @hw ?_;exact eC ⟨eE,by rw[← hp2];rfl⟩
  ·refine⟨_,⟨_,rfl,.g h3⟩,?_⟩;refine sJ @hw ?_;refine⟨ed Kd Ka,?_⟩;refine sJ @hw ?_;refine⟨_,dZ (cs:=eH p A c (some ⟨ga,0,none⟩) d) (.head _) rfl,?_⟩;refine sJ @hw ?_;refine⟨ed Kd Ka,?_⟩;refine sJ @hw ?_;refine ei [] _ rfl (by simp[eH,eu]) ⟨rfl,rfl⟩ ?_;refine sJ @hw ?_;refine⟨ed Kd Ka,?_⟩;refine sJ @hw ?_;refine ei [] _ rfl (by simp[eH,eu]) ⟨rfl,rfl⟩ ?_;refine sJ @hw ?_;refine⟨ed Kd Ka,?_⟩
   refine sJ @hw ?_;exact eC ⟨eE,by rw[← hp2];rfl⟩
 rintro e h ⟨e0,rfl⟩;refine dX [0] ?_;refine sJ @e0 ?_;intros;try refine dU ?_
 intros;refine gR 43 45 c91r8.eq_1 ?_;rw[← append_nil (PtL p2 x A c (some ⟨ga,0,none⟩) d ys zs)];refine(hraise _ _).mono ?_;rintro r' h' ⟨G2,L',rfl,hg2,rfl,zs',rfl,hz'⟩;rw[append_nil];refine sI ?_;intros;try refine dU ?_
 intros;refine gR 0 0 c91r9.eq_1 ?_;intros;refine ea (ee _ rfl J9 eT (vO ?_ hz' (la hi2)));rw[(hX p2).2.2.2.1,← hp2];exact hy
theorem tw(p:Pt)(cs:JU)(n:Int)(G:JT)(hp:PE G p cs)(hsm:smP p)(hn:I64 n):FnD Tryz.prog 37 #[.agg cs.toArray,.int .i64 n] G (PtR (ofP p n (jR n))):=by
 have hp0:=hp;obtain⟨A,c,B,d,rfl,-,-,hI⟩:=hp;refine F37.fnD (by simp) (d7 ?_);unfold c37;unfold eH at hp0 ⊢;intros;refine gR 0 0 c37r0.eq_1 ?_;intro b3 hb3;refine sI ?_;intros;refine eI (eO [_] _) ?_;rintro h' ⟨G1,rfl,hg1,f3⟩;have f3:=f3 0 _ rfl;rw[eS]at f3;have hof:=xS p _ n 91 #[.pointer (some ⟨b3,0,none⟩)] (jR n p) G1 (hp0.le hg1) hsm hn fun hok k r _ hr=>xO p n b3 k r G1 hok hsm hI hn f3 hr
 rw[← jS]at hof;intros;refine gR 6 12 c37r1.eq_1 ?_;refine⟨_,⟨_,rfl,.g f3⟩,?_⟩;refine sI ?_;refine(hof _ _).mono ?_;rintro r h' ⟨G2,rfl,hg2,cs2,rfl,hpe⟩;have hpe0:=hpe;obtain⟨A2,c2,B2,d2,rfl,-⟩:=hpe;unfold eH at hpe0 ⊢;refine sI ?_;intros;refine rW ?_;exact⟨_,rfl,hpe0⟩
theorem F140:Fun Tryz.prog 140 42 v140 c140 o140:=Fun.mkA Tryz.func140 Tryz.ntmps140
theorem F87:Fun Tryz.prog 87 15 v87 c87 o87:=Fun.mkA Tryz.func87 Tryz.ntmps87
theorem F141:Fun Tryz.prog 141 7 v141 c141 o141:=Fun.mkA Tryz.func141 Tryz.ntmps141
theorem F44:Fun Tryz.prog 44 12 v44 c44 o44:=Fun.mkA Tryz.func44 Tryz.ntmps44
theorem F102:Fun Tryz.prog 102 36 v102 c102 o102:=Fun.mkA Tryz.func102 Tryz.ntmps102
theorem ny{G:JT}{L:JW}{D:J5}{A:JY}{n m c et sz:Nat}{ys:JU}(hm:m≤n):iK ⟨G,.row (.slice A n c) et sz n ys :: L,D⟩ ⟨G,.row (.slice A m c) et sz m (ys.take (m * sz)) :: L,D⟩:=fun β w hs=>by
 have h:=kB (L1:=[]) (it':=.row (.slice A m c) et sz m (ys.take (m * sz))) (w':=w) hs rfl rfl rfl (Nat.le_refl _) (fun _ _ _=>rfl) (by
   obtain⟨hl,hok⟩:=hs.l _ (List.mem_cons_self ..)
   have hms:m * sz≤n * sz:=Nat.mul_le_mul_right _ hm
   refine⟨by rw[List.length_take,hl];omega,?_⟩
   rcases hok with⟨A0,he,h0⟩ | ⟨g,cap,cur,he,h1,h2,h3,h4,h5,h6⟩
   · cases he
     exact .inl ⟨A, by have : m = 0 := by omega
                       subst this;rfl,by omega⟩
   · cases he
     refine .inr ⟨g,c,cur,rfl,h1,h2,by omega,h4,h5,?_⟩
     rw[← h6,List.take_take,Nat.min_eq_left hms]) (fun b hb=>.inl (by
   cases A <;> exact hb))
 exact⟨h.1,h.2,rfl,fun s cs hh=>⟨cs,by simpa using hh⟩⟩
theorem zM{l:J6}{i:Nat}{v:Int}(h:i < l.length):(l.set i v).take (i+1)=l.take i++[v]:=by
 rw[List.take_add_one,List.getElem?_set_self h];congr 1;exact List.take_set_of_le (Nat.le_refl _)
theorem ud(l:J6)(p:Int→Bool)(f:Nat)(cap:Array Value)(A:JY)(c:Nat)(ys:JU)(G:JT)(hy:Cells IE 1 l ys)(hf:∀ G',Gle G G'→∀ s,s∈l→I64 s→FnS Tryz.prog f (#[.int .i64 s]++cap) G' (.bool (p s))):
  FnO Tryz.prog 140 #[.slice A l.length c,.func (.func f) #[] cap] G [.row (.slice A l.length c) 3 1 l.length ys] (fun _ L' r=>∃ A' c' ys',r=.slice A' (l.filter fun s=>!p s).length c'∧Cells IE 1 (l.filter fun s=>!p s) ys'∧L'=[.row r 3 1 (l.filter fun s=>!p s).length ys']):=by
 refine F140.fnO (by simp) (dV dS) (d7 ?_);unfold c140;intros;refine gR 0 0 c140r0.eq_1 ?_;intros;refine gR 8 11 c140r1.eq_1 ?_
 refine(jd (L1:=[_]) (L:=[]) (R:=fun r=>r=.int .i64 (gk p l 0)) (M:=fun G=>SlV G IE 1 (.slice A l.length c) l) (dV dS) F109.enters (List.Perm.refl _) (jn (M1:=fun G=>SlV G IE 1 (.slice A l.length c) l) (fun L=>kl (by decide) hy) fun G' _ h=>mJ h) fun G' hg hp=>og l p f cap _ G' hp (hf G' hg) [] []).mono ?_;rintro _ _ ⟨rfl,rfl⟩;refine sI ?_;intros;try refine dU ?_
 rcases kV p l 0 with⟨q1,q2⟩ | ⟨k,x,q1,q2,q3,q4⟩
 ·rw[q1];intros;try refine dU ?_
  have hd:decide ((-1:Int)=-1)=true:=by decide
  intros;refine gR2 11 12 c140r2.eq_1 @hd ?_;intros;refine gC ?_;have hfl:(l.filter fun s=>!p s)=l:=List.filter_eq_self.2 fun s hs=>by rw[q2 s hs];rfl
  intros;refine gR 13 14 c140r3.eq_1 ?_;intros;refine ea (ee _ rfl J9 (dV dS) ⟨A,c,ys,?_,?_,?_⟩)
  ·rw[hfl];rfl
  ·rw[hfl];exact hy
  ·rw[hfl];rfl
 rw[q1,Nat.zero_add];have hkl:=(List.getElem?_eq_some_iff.1 q2).1;refine eI (jK (.head _) (by omega)) ?_;rintro h' ⟨rfl,g,c9,he,hlc,hmx⟩;cases he;unfold maxLen at hmx;have hd:decide ((k:Int)=-1)=false:=by simp
 have hw0:IntKind.i64.wrap ((k:Int)+1)=(k:Int)+1:=by rw[eh] <;> omega
 intros;try refine dU ?_
 intros;refine gR2 11 12 c140r2.eq_1 @hd ?_;intros;refine gC ?_;intros;refine gN ?_;intros;try refine dU ?_
 intros;refine gR2 14 16 c140r4.eq_1 @hw0 ?_;intros;refine dT ?_
 refine ej (fun e h=>∃ (i j:Nat) (cur:J6) (ys':JU),(i < j∧j≤l.length)∧(cur.length=l.length∧Cells IE 1 cur ys')∧(cur.take i=(l.take j).filter (fun s=>!p s)∧cur.drop j=l.drop j)∧e 5=.int .i64 i∧e 6=.int .i64 j∧e 0=.slice (some ⟨g,0,none⟩) l.length c∧e 1=.func (.func f) #[] cap∧h=⟨G,[.row (.slice (some ⟨g,0,none⟩) l.length c) 3 1 l.length ys'],[]⟩) (fun e h=>l.length - iv (e 6)) ?_ ?_
 ·refine⟨k,k+1,l,ys,⟨by omega,by omega⟩,⟨rfl,hy⟩,⟨?_,rfl⟩,eE,eE,eE,eE,rfl⟩;rw[eG q2,List.filter_append,List.filter_eq_self.2 (fun s hs=>by rw[q4 s hs];rfl)];simp[q3]
 rintro e h ⟨i,j,cur,ys',⟨hij,hjn⟩,⟨hcl,hy'⟩,⟨ht,hdr⟩,e5,e6,e0,e1,rfl⟩;refine dX [0,1,5,6] ?_;refine sJ4 @e0 @e1 @e5 @e6 ?_;intros;refine gR 16 19 c140r5.eq_1 ?_;intros;refine gC ?_;refine gb (fun h1=>?_) (fun h1=>?_)
 ·have h1:j < l.length:=by have:=Kb h1;omega
  have hw:IntKind.i64.wrap ((j:Int)+1)=(j:Int)+1:=by rw[eh] <;> omega
  obtain⟨v,hv⟩:∃ v,l[j]?=some v:=⟨l[j],getElem?_eq_getElem h1⟩;have hcv:cur[j]?=some v:=by
   have:(cur.drop j)[0]?=(l.drop j)[0]?:=by rw[hdr]
   simpa [List.getElem?_drop,hv]using this
  obtain⟨cs,⟨rfl,hvi⟩,-,hld⟩:=hy'.get hcv;have hld:=hld 0 _ rfl;rw[Nat.add_zero]at hld;have hlj:ys'.length=l.length * 1:=by rw[hy'.len,hcl]
  have htk:=eG hv;have hbk:∀ (cur2:J6) (ys2:JU) (i2:Nat) (e:Env),(i2 < j+1)→cur2.length=l.length→Cells IE 1 cur2 ys2→cur2.take i2=(l.take (j+1)).filter (fun s=>!p s)→cur2.drop (j+1)=l.drop (j+1)→e 5=.int .i64 i2→e 6=.int .i64 j→e 0=.slice (some ⟨g,0,none⟩) l.length c→e 1=.func (.func f) #[] cap →
    go none Tryz.prog 42 v140.1 v140.2 (fB o140 fun v h=>∃ A' c' ys',v=.slice A' (l.filter fun s=>!p s).length c'∧Cells IE 1 (l.filter fun s=>!p s) ys'∧h.L=[.row v 3 1 (l.filter fun s=>!p s).length ys'])
    [Td.s (SC.reg false c140r10),Td.l fun e' h'=>(∃ (i j:Nat) (cur:J6) (ys':JU),(i < j∧j≤l.length)∧(cur.length=l.length∧Cells IE 1 cur ys')∧(cur.take i=(l.take j).filter (fun s=>!p s)∧cur.drop j=l.drop j)∧e' 5=.int .i64 i∧e' 6=.int .i64 j∧e' 0=.slice (some ⟨g,0,none⟩) l.length c∧e' 1=.func (.func f) #[] cap∧h'=⟨G,[.row (.slice (some ⟨g,0,none⟩) l.length c) 3 1 l.length ys'],[]⟩)∧l.length - iv (e' 6) < l.length - j,Td.b 0,Td.s ((SC.reg false c140r11).seq ((SC.reg false c140r12).seq SC.ret))] e ⟨G,[.row (.slice (some ⟨g,0,none⟩) l.length c) 3 1 l.length ys2],[]⟩:=fun cur2 ys2 i2 e a1 a2 a3 a4 a5 b5 b6 b0 b1=>by
   refine dX [0,1,5,6] ?_;refine sJ4 @b0 @b1 @b5 @b6 ?_;intros;refine gR2 20 22 c140r10.eq_1 @hw ?_;intros;refine dT ?_;refine eC ⟨⟨i2,j+1,cur2,ys2,⟨a1,by omega⟩,⟨a2,a3⟩,⟨a4,a5⟩,eE,eE,eE,eE,rfl⟩,?_⟩;refine sI ?_;omega
  intros;refine gN ?_;intros;refine gR 22 26 c140r6.eq_1 ?_;refine⟨by omega,_,rfl,?_⟩;refine sJ @Nat.zero_add ?_;refine⟨_,fj (.head _) hld,?_⟩;refine sI ?_;intros;try refine dU ?_
  intros;refine gR 26 29 c140r7.eq_1 ?_;refine .inl ⟨f,cap,rfl,?_⟩;refine fK (hf G (.refl G) v (mem_of_getElem? hv) hvi _ _) ?_;intros;refine gC ?_;refine gb (fun h2=>?_) (fun h2=>?_)
  ·have h2:p v=false:=by simpa using h2
   have hwi:IntKind.i64.wrap ((i:Int)+1)=(i:Int)+1:=by rw[eh] <;> omega
   intros;try refine dU ?_
   intros;refine gR 30 34 c140r8.eq_1 ?_;refine⟨by omega,_,rfl,?_⟩;refine sJ @Nat.zero_add ?_;refine fZ [] _ rfl (by simp;omega) ⟨rfl,rfl⟩ ?_;refine sI ?_;intros;refine gR2 34 36 c140r9.eq_1 @hwi ?_;intros;refine gN ?_
   refine hbk (cur.set i v) _ (i+1) _ (by omega) (by rw[List.length_set,hcl]) (Cells.set hy' (by omega) ⟨rfl,hvi⟩ rfl) ?_ ?_ (by((refine sI ?_;try with_reducible exact True.intro))) (by((refine sI ?_;try with_reducible exact True.intro))) (by((refine sI ?_;try with_reducible exact True.intro))) (by((refine sI ?_;try with_reducible exact True.intro)))
   ·rw[zM (by omega),ht,htk,List.filter_append];simp[h2]
   ·rw[List.drop_set_of_lt (by omega)];have:(cur.drop j).drop 1=(l.drop j).drop 1:=by rw[hdr]
    simpa [List.drop_drop]using this
  ·have h2:p v=true:=by simpa using h2
   intros;refine gN ?_;refine hbk cur ys' i _ (by omega) hcl hy' ?_ ?_ (by((refine sI ?_;try with_reducible exact True.intro))) (by((refine sI ?_;try with_reducible exact True.intro))) (by((refine sI ?_;try with_reducible exact True.intro))) (by((refine sI ?_;try with_reducible exact True.intro)))
   ·rw[ht,htk,List.filter_append];simp[h2]
   ·have:(cur.drop j).drop 1=(l.drop j).drop 1:=by rw[hdr]
    simpa [List.drop_drop]using this
 ·have h1:j=l.length:=by have:=Kc h1;omega
  subst h1;rw[take_length]at ht;refine eg ?_;refine sI ?_;intros;refine gR2 36 39 c140r11.eq_1 @IS ?_;have hne:¬ c=i:=by omega
  have hl2:(l.filter fun s=>!p s).length=i:=by rw[← ht,List.length_take];omega
  have hzl:(Builtin.zeroCells #[.int .i64 0] (l.length - i)).toList.length=l.length - i:=by rw[Array.length_toList,size_zeroCells];simp
  have hyl:ys'.length=l.length:=by rw[hy'.len,hcl,Nat.mul_one]
  refine⟨by omega,?_⟩;rw[if_neg hne,Nat.zero_add,Nat.mul_one];generalize hzs:(Builtin.zeroCells #[.int .i64 0] (l.length - i)).toList=zz at hzl;refine⟨_,_,_,_,rfl,.inr ⟨g,i,⟨rfl,by simp[Value.oneCell']⟩,by rw[hzs];exact .row [] (by omega)⟩,?_⟩;refine sI ?_;intros;refine gR 39 42 c140r12.eq_1 ?_;refine⟨by omega,?_⟩;refine sI ?_;intros;refine dW (ny (m:=i) (by omega)) ?_
  refine ea (ee _ rfl J9 (dV dS) ⟨some ⟨g,0,none⟩,c,ys'.take (i * 1),?_,?_,?_⟩)
  ·rw[hl2];rfl
  ·rw[← ht];exact(hy'.split i (by omega)).1
  ·rw[hl2];have:(eu ys' i zz).take (i * 1)=ys'.take (i * 1):=by
    rw[Nat.mul_one,eu,List.append_assoc,List.take_append_of_le_length (by rw[List.length_take];omega),List.take_take,Nat.min_self]
   rw[this];rfl
theorem Cg(n m:Int)(b:Nat)(G:JT)(h:fw G ⟨b,0,none⟩=some (.int .i64 n)):FnS Tryz.prog 141 #[.int .i64 m,.pointer (some ⟨b,0,none⟩)] G (.bool (decide (m=n))):=by
 refine F141.fnS (by simp) (d7 ?_);unfold c141;intros;refine gR 0 0 c141r0.eq_1 ?_;intros;refine gR 4 7 c141r1.eq_1 ?_;refine⟨_,⟨_,rfl,.g h⟩,?_⟩;refine sI ?_;intros;refine rV ?_;simp only[push_cast,Nat.reduceBEq]
theorem Bh(p:Pt)(x:Nat)(A:JY)(c:Nat)(B:JY)(d:Nat)(ys zs:JU):
  (PtL p x A c B d ys zs).Perm ([Kx.Item.row (.slice A p.isr.length c) 3 1 p.isr.length ys]++[Kx.Item.blk x (eH p A c B d),Kx.Item.row (.slice B p.reps.length d) 50 7 p.reps.length zs]) :=
 List.perm_append_comm (l₁:=[Kx.Item.blk x (eH p A c B d),Kx.Item.row (.slice B p.reps.length d) 50 7 p.reps.length zs]) (l₂:=[Kx.Item.row (.slice A p.isr.length c) 3 1 p.isr.length ys])
def sV(p:Pt)(n:Int):Pt:={ p with isr:=p.isr.filter fun m=>decide (m≠n) }
theorem AX(p:Pt)(n:Int)(x:Nat)(A:JY)(c:Nat)(B:JY)(d:Nat)(ys zs:JU)(G:JT)(hy:Cells IE 1 p.isr ys):
  FnO Tryz.prog 87 #[.pointer (some ⟨x,0,none⟩),.int .i64 n] G (PtL p x A c B d ys zs) (fun G' L' r=>r=.tuple #[]∧∃ A' c' ys',L'=PtL (sV p n) x A' c' B d ys' zs∧Cells IE 1 (sV p n).isr ys'):=by
 have hfe:(p.isr.filter fun s=>!decide (s=n))=(sV p n).isr:=List.filter_congr fun s _=>by simp
 refine F87.fnO (by simp) eT (d7 ?_);unfold c87;intros;refine gR 0 0 c87r0.eq_1 ?_;intro b3 hb3;refine sI ?_;intros;refine eI (eO [] _) ?_;rintro h' ⟨G1,rfl,hg1,f3⟩;have f3:=f3 0 _ rfl;rw[eS]at f3;intros;refine gR 4 15 c87r1.eq_1 ?_;refine⟨_,dZ (cs:=eH p A c B d) (.head _) rfl,?_⟩;refine sI ?_
 have hdel:=ud p.isr (fun m=>decide (m=n)) 141 #[.pointer (some ⟨b3,0,none⟩)] A c ys G1 hy fun G' hg s hs hi=>Cg n s b3 G' (em hg f3)
 refine eP.ghost (h':=⟨G1,[.row (.slice A p.isr.length c) 3 1 p.isr.length ys]++[.blk x (eH p A c B d),.row (.slice B p.reps.length d) 50 7 p.reps.length zs],[]⟩) (eL (Bh p x A c B d ys zs)) ?_;refine(hdel _ _).mono ?_;rintro r h' ⟨G2,L',rfl,hg2,A',c',ys',rfl,hy2,rfl⟩;rw[hfe]at hy2 ⊢;refine sI ?_;refine ei [_] _ rfl (by simp[eH]) ⟨rfl,rfl⟩ ?_;refine sI ?_;intros
 exact gv ⟨[],rfl,⟨G2,PtL (sV p n) x A' c' B d ys' zs,[]⟩,eL (Bh (sV p n) x A' c' B d ys' zs).symm,eT,rfl,A',c',ys',rfl,hy2⟩
theorem sT{p:Pt}(n:Int)(h:∀ m∈p.isr,m∈gz p.reps):∀ m∈(sV p n).isr,m∈gz (sV p n).reps:=fun m hm=>h m (List.mem_filter.1 hm).1
theorem yU(p:Pt)(n:Int)(b3 k:Nat)(r:Rp)(G:JT)(hok:okP p)(hsm:smP p)(hI:rp p)(hn:I64 n)(h3:fw G ⟨b3,0,none⟩=some (.int .i64 n))(hr:p.reps[k]?=some r):
  nT G 102 #[.pointer (some ⟨b3,0,none⟩)] p k (nA n p k r):=by
 intro G1 x A c ga d ys zs hg hy hz;have h3:=em hg h3;rw[show(#[.pointer (some ⟨x,0,none⟩),.pointer (some ⟨ga,k * 7,none⟩)]++#[.pointer (some ⟨b3,0,none⟩)]:Array Value)=#[.pointer (some ⟨x,0,none⟩),.pointer (some ⟨ga,k * 7,none⟩),.pointer (some ⟨b3,0,none⟩)]from rfl];refine F102.fnO (by simp) eT (d7 ?_);unfold c102;intros;refine gR 0 0 c102r0.eq_1 ?_;intros;refine dT ?_
 intros;refine gR 7 13 c102r1.eq_1 ?_;refine⟨_,dZ (cs:=eH p A c (some ⟨ga,0,none⟩) d) (.head _) rfl,?_⟩;refine sI ?_;intros;refine gC ?_;refine gbD (fun k1=>?_) (fun k1=>?_)
 ·intros;refine gR 0 0 c102r2.eq_1 ?_;intros;refine ea (ee [] rfl Ka dS ?_);rw[nA,if_pos k1];exact oJ x _ (by decide)
 have hno:n=p.leader∨n∉p.isr→∀ (fr:J0) (e:Env) (h:H),go none Tryz.prog 36 v102.1 v102.2 (fB o102 fun v h=>Av (nA n p k r) x (· = []) h.G h.L v) (Td.s ((SC.reg false c102r4).seq .ret) :: fr) e h:=fun h fr e h=>by
  intros;refine gR 0 0 c102r4.eq_1 ?_;intros;refine ea (ee [] rfl Ka dS ?_);rw[nA,if_neg k1,if_pos ‹_›];exact oJ x _ (by decide)
 intros;try refine dU ?_
 intros;refine dT ?_;refine ly _ J9 (by decide) ?_;refine sJ c102r3.eq_1 ?_;refine⟨_,⟨_,rfl,.g h3⟩,?_⟩;refine sI ?_;refine⟨_,dZ (cs:=eH p A c (some ⟨ga,0,none⟩) d) (.head _) rfl,?_⟩;refine sI ?_;refine gxD (fun k2=>?_) (fun k2=>?_)
 ·refine sI ?_;intros;refine gC ?_;exact hno (.inl k2) _ _ _
 refine sI ?_;refine⟨_,dZ (cs:=eH p A c (some ⟨ga,0,none⟩) d) (.head _) rfl,?_⟩;refine sI ?_;refine⟨_,⟨_,rfl,.g h3⟩,?_⟩;refine sI ?_
 (refine fK (mo p.isr n A c ys _ _ (List.perm_append_comm (l₁:=[_,_]) (l₂:=[_])) hy) ?_)
 intros;refine gC ?_;refine gb (fun k3=>?_) (fun k3=>?_)
 ·have k3:n∉p.isr:=by simpa using k3
  exact hno (.inr k3) _ _ _
 have k3:n∈p.isr:=by simpa using k3
 have hq:nA n p k r=(eR (sV p n),0):=by
  rw[nA,if_neg k1,if_neg (fun h=>by rcases h with h | h;exact k2 h;exact h k3)]
  rfl
 rw[hq];clear hno hq;have hout:=AX p n x A c (some ⟨ga,0,none⟩) d ys zs G1 hy;intros;refine gN ?_;intros;try refine dU ?_
 intros;refine gR 31 34 c102r5.eq_1 ?_;refine⟨_,⟨_,rfl,.g h3⟩,?_⟩;refine sI ?_;rw[← append_nil (PtL p x A c (some ⟨ga,0,none⟩) d ys zs)];refine(hout _ _).mono ?_;rintro r' h' ⟨G2,L',rfl,hg2,rfl,A',c',ys',rfl,hy2⟩;rw[append_nil];have hraise:=lu (sV p n) x A' c' (some ⟨ga,0,none⟩) d ys' zs G2 hy2 (eU hz fun _ _ h=>RE.le hg2 h) (g9 (p:=p) hok) (sT n hok.2.1.2) (qt hsm.1) hI;refine sI ?_
 intros;try refine dU ?_
 intros;refine gR 34 36 c102r6.eq_1 ?_;rw[← append_nil (PtL (sV p n) x A' c' (some ⟨ga,0,none⟩) d ys' zs)];refine(hraise _ _).mono ?_;rintro r' h' ⟨G3,L',rfl,hg3,rfl,zs',rfl,hz'⟩;rw[append_nil];refine sI ?_;intros;try refine dU ?_
 intros;refine gR 0 0 c102r7.eq_1 ?_;intros;refine ea (ee _ rfl J9 eT (vO ?_ hz' (la (p:=sV p n) hI)));rw[(hX (sV p n)).2.2.2.1];exact hy2
theorem Dv(p:Pt)(cs:JU)(n:Int)(G:JT)(hp:PE G p cs)(hsm:smP p)(hn:I64 n):FnD Tryz.prog 44 #[.agg cs.toArray,.int .i64 n] G (PtR (ofP p n (nA n))):=by
 have hp0:=hp;obtain⟨A,c,B,d,rfl,-,-,hI⟩:=hp;refine F44.fnD (by simp) (d7 ?_);unfold c44;unfold eH at hp0 ⊢;intros;refine gR 0 0 c44r0.eq_1 ?_;intro b3 hb3;refine sI ?_;intros;refine eI (eO [_] _) ?_;rintro h' ⟨G1,rfl,hg1,f3⟩;have f3:=f3 0 _ rfl;rw[eS]at f3;have hof:=xS p _ n 102 #[.pointer (some ⟨b3,0,none⟩)] (nA n p) G1 (hp0.le hg1) hsm hn fun hok k r _ hr=>yU p n b3 k r G1 hok hsm hI hn f3 hr
 rw[← jS]at hof;intros;refine gR 6 12 c44r1.eq_1 ?_;refine⟨_,⟨_,rfl,.g f3⟩,?_⟩;refine sI ?_;refine(hof _ _).mono ?_;rintro r h' ⟨G2,rfl,hg2,cs2,rfl,hpe⟩;have hpe0:=hpe;obtain⟨A2,c2,B2,d2,rfl,-⟩:=hpe;unfold eH at hpe0 ⊢;refine sI ?_;intros;refine rW ?_;exact⟨_,rfl,hpe0⟩
theorem F36:Fun Tryz.prog 36 11 v36 c36 o36:=Fun.mkA Tryz.func36 Tryz.ntmps36
theorem F88:Fun Tryz.prog 88 46 v88 c88 o88:=Fun.mkA Tryz.func88 Tryz.ntmps88
theorem wd{r:Rp}{A:JY}{c:Nat}{B:JY}{d k:Nat}{zs:JU}(hld:∀ o u,(fL r A c B d)[o]?=some u→zs[k * 7+o]?=some u):∀ j u,(eM r.log A c)[j]?=some u→zs[k * 7+2+j]?=some u:=fun j u hj=>by
 rw[Nat.add_assoc];refine hld (2+j) u ?_
 match j,hj with
 | 0,h=>exact h
 | 1,h=>exact h
 | 2,h=>exact h
 | j+3,h=>cases h
theorem jJ{l:List Rp}{k:Nat}{r y:Rp}(h:l[k]?=some r):(l.set k y)[k]?=some y:=List.getElem?_set_self (List.getElem?_eq_some_iff.1 h).1
theorem wc{p:Pt}{k:Nat}{y:Rp}{x:Nat}{G:JT}{A:JY}{c:Nat}{B:JY}{d:Nat}{ys zs:JU}(hy:Cells IE 1 p.isr ys)(hz:Cells (RE G) 7 (p.reps.set k y) zs)(hi:rp p):
  Av (ip p k y,0) x (· = []) G (PtL p x A c B d ys zs) (.int .i64 0):=by
 have:=vO (p:=ip p k y) (x:=x) (G:=G) (A:=A) (c:=c) (B:=B) (d:=d) hy hz hi
 rwa [np]at this
theorem zD(p:Pt)(k:Nat)(r:Rp)(G:JT)(hok:okP p)(hsm:smP p)(hI:rp p)(hr:p.reps[k]?=some r):nT G 88 #[] p k (nM p k r):=by
 intro G1 x A c ga d ys zs hg hy hz;rw[show(#[.pointer (some ⟨x,0,none⟩),.pointer (some ⟨ga,k * 7,none⟩)]++#[]:Array Value)=#[.pointer (some ⟨x,0,none⟩),.pointer (some ⟨ga,k * 7,none⟩)]from rfl];have hsr:=hsm.1 r (mem_of_getElem? hr);have hkl:=(List.getElem?_eq_some_iff.1 hr).1;have hzl:=hz.len;refine F88.fnO (by simp) eT (d7 ?_);unfold c88;intros;refine gR 0 0 c88r0.eq_1 ?_
 intros;try refine dU ?_
 obtain⟨cs,hre,hcl,hld⟩:=hz.get hr;obtain⟨A1,c1,B1,d1,rfl,-⟩:=hre;intros;try refine dU ?_
 intros;refine gR 6 9 c88r1.eq_1 ?_;refine⟨_,fj (.tail _ (.head _)) (hld 1 _ rfl),?_⟩;refine sI ?_;intros;refine gC ?_;refine gb (fun k1=>?_) (fun k1=>?_)
 ·intros;refine gR 0 0 c88r2.eq_1 ?_;intros;refine ea (ee [] rfl Ka dS ?_);rw[nM,if_pos k1];exact oJ x _ (by decide)
 have hq:nM p k r=(ip p k (wy r),0):=by rw[nM,if_neg (by rw[k1];simp)]
 rw[hq];clear hq;have hz1:Cells (RE G1) 7 (p.reps.set k { r with up:=true }) (eu zs (k * 7+1) [.bool true]):=Cells.setF hz hr (by simp) fun cs h hl=>by
  obtain⟨A5,c5,B5,d5,rfl,q⟩:=h;exact⟨A5,c5,B5,d5,rfl,q⟩
 have hr1:=jJ (y:={ r with up:=true }) hr;intros;refine gN ?_;intros;refine gR 10 13 c88r3.eq_1 ?_;refine fZ [_] _ rfl (by simp;omega) ⟨rfl,rfl⟩ ?_;have hzl1:=hz1.len;rw[List.length_set]at hzl1;clear hld hcl hz;generalize eu zs (k * 7+1) [.bool true]=zs1 at *;obtain⟨cs,hre,hcl,hld⟩:=hz1.get hr1;have hre0:=hre;obtain⟨A1,c1,B1,d1,rfl,q1,q2,q3,q4⟩:=hre
 have hrec:=oh r.log _ G1 ⟨A1,c1,rfl,q1,q3⟩ hsr.1 hsr.2.1;have hldl:=wd hld;unfold eM at hrec hldl;refine sI ?_;intros;try refine dU ?_
 intros;refine gR 13 24 c88r4.eq_1 ?_;refine⟨_,ic (.tail _ (.head _)) rfl hldl,?_⟩;refine sI ?_;refine(hrec _ _).mono ?_;rintro v h' ⟨G2,rfl,hg2,cs2,rfl,hle⟩;have hle0:=hle;obtain⟨A2,c2,rfl,hsl2,hlim2⟩:=hle;unfold eM;refine sI ?_;refine fZ [_] _ rfl (by simp;omega) ⟨rfl,rfl⟩ ?_
 have hz2:Cells (RE G2) 7 (p.reps.set k { r with up:=true,log:=(jc r.log).1 }) (eu zs1 (k * 7+2) (eM (jc r.log).1 A2 c2)):=by
  have:=Cells.setF (E:=RE G2) (o:=2) (us:=eM (jc r.log).1 A2 c2) (x':={ r with up:=true,log:=(jc r.log).1 }) (eU hz1 fun _ _ h=>RE.le hg2 h) hr1 (by simp[eM]) fun cs h hl=>by
   obtain⟨A5,c5,B5,d5,rfl,q1,q2,q3,q4⟩:=h;exact⟨A2,c2,B5,d5,rfl,hsl2,q2,hlim2,q4⟩
  rwa [List.set_set]at this
 unfold eM at hz2;have hr2:=jJ (y:={ r with up:=true,log:=(jc r.log).1 }) hr;have hzl2:=hz2.len;rw[List.length_set]at hzl2;clear hld hldl hcl hz1;generalize eu zs1 (k * 7+2) [.int .i64 (jc r.log).1.limit,.int .i64 (jc r.log).1.start,.slice A2 (jc r.log).1.segs.length c2]=zs2 at *;obtain⟨cs,hre,hcl,hld⟩:=hz2.get hr2;have hre1:=hre;obtain⟨A1,c1,B1,d1,rfl,q1,q2,q3,q4⟩:=hre;have hsm2:=xd hsr.1 hsr.2.1
 have hend:=ji _ _ G2 hre1 hsm2.1 (by have:=hsm2.2;show(jc r.log).1.segs.length≤_;omega);unfold fL at hend;refine sI ?_;intros;try refine dU ?_
 intros;refine gR 24 28 c88r5.eq_1 ?_;refine⟨_,ic (.tail _ (.head _)) hcl hld,?_⟩;unfold fL;refine sI ?_;refine fK (hend _ _) ?_;have hei:=m6 (jc r.log).1;have hbr:wy r=⟨r.id,true,(jc r.log).1,o4 r.eps (fD (jc r.log).1),min r.high (fD (jc r.log).1)⟩:=rfl;rw[hbr];have hcut:=CC r.eps (fD (jc r.log).1) _ G2 q2 (by have:=hsr.2.2;omega);generalize fD (jc r.log).1=en at *;intros;try refine dU ?_
 intros;refine dT ?_;refine pQ _ J9 (by decide) ?_;refine sJ c88r6.eq_1 ?_;refine⟨_,fj (.tail _ (.head _)) (hld 5 _ rfl),?_⟩;refine sI ?_;refine⟨_,fj (.tail _ (.head _)) (hld 6 _ rfl),?_⟩;refine sI ?_;refine(jh (E:=EpE) (et:=151) (sz:=2) hcut _ _).mono ?_;rintro r' h' ⟨G3,L',rfl,hg3,A3,c3,ye,rfl,-,hye,rfl⟩;refine⟨ed hg3 (.cons _ J9),?_⟩;refine sI ?_
 refine fZ [_,_] _ rfl (by simp;omega) ⟨rfl,rfl⟩ ?_;refine sI ?_;refine gy ?_;refine sI ?_;refine fZ [_,_] _ rfl (by simp[eu];omega) ⟨rfl,rfl⟩ ?_;refine sI ?_;intros;try refine dU ?_
 refine eI (ef [] _ (by decide) hye) ?_;rintro h' ⟨G4,rfl,hg4,hv4⟩;have hz3:Cells (RE G4) 7 (p.reps.set k { r with up:=true,log:=(jc r.log).1,eps:=o4 r.eps en }) (eu zs2 (k * 7+5) [.slice A3 (o4 r.eps en).length c3]):=by
  have:=Cells.setF (E:=RE G4) (o:=5) (us:=[.slice A3 (o4 r.eps en).length c3]) (x':={ r with up:=true,log:=(jc r.log).1,eps:=o4 r.eps en }) (eU hz2 fun _ _ h=>RE.le (hg3.trans hg4) h) hr2 (by simp) fun cs h hl=>by
   obtain⟨A5,c5,B5,d5,rfl,q1,q2,q3,q4⟩:=h;exact⟨A5,c5,A3,c3,rfl,q1,hv4,q3,q4⟩
  rwa [List.set_set]at this
 have hr3:=jJ (y:={ r with up:=true,log:=(jc r.log).1,eps:=o4 r.eps en }) hr;have hz4:Cells (RE G4) 7 (p.reps.set k { r with up:=true,log:=(jc r.log).1,eps:=o4 r.eps en,high:=min r.high en }) (eu (eu zs2 (k * 7+5) [.slice A3 (o4 r.eps en).length c3]) (k * 7+6) [.int .i64 (min r.high en)]):=by
  have:=Cells.setF (E:=RE G4) (o:=6) (us:=[.int .i64 (min r.high en)]) (x':={ r with up:=true,log:=(jc r.log).1,eps:=o4 r.eps en,high:=min r.high en }) hz3 hr3 (by simp) fun cs h hl=>by
   obtain⟨A5,c5,B5,d5,rfl,q1,q2,q3,q4,q5⟩:=h;have q5:I64 r.high:=q5;exact⟨A5,c5,B5,d5,rfl,q1,q2,q3,q4,by unfold I64 at q5 ⊢;show _≤min r.high en∧min r.high en≤_;omega⟩
  rwa [List.set_set]at this
 intros;refine gR 0 0 c88r7.eq_1 ?_;intros;exact ea (ee _ rfl J9 eT (wc hy hz4 hI))
theorem wF(p:Pt)(cs:JU)(n:Int)(G:JT)(hp:PE G p cs)(hsm:smP p)(hn:I64 n):FnD Tryz.prog 36 #[.agg cs.toArray,.int .i64 n] G (PtR (ofP p n nM)):=by
 have hp0:=hp;obtain⟨A,c,B,d,rfl,-,-,hI⟩:=hp;refine F36.fnD (by simp) (d7 ?_);unfold c36;unfold eH at hp0 ⊢;intros;refine gR 0 0 c36r0.eq_1 ?_;have hof:=xS p _ n 88 #[] (nM p) G hp0 hsm hn fun hok k r _ hr=>zD p k r G hok hsm hI hr
 rw[← jS]at hof;intros;refine gR 6 11 c36r1.eq_1 ?_;refine(hof _ _).mono ?_;rintro r h' ⟨G2,rfl,hg2,cs2,rfl,hpe⟩;have hpe0:=hpe;obtain⟨A2,c2,B2,d2,rfl,-⟩:=hpe;unfold eH at hpe0 ⊢;refine sI ?_;intros;refine rW ?_;exact⟨_,rfl,hpe0⟩
theorem F35:Fun Tryz.prog 35 14 v35 c35 o35:=Fun.mkA Tryz.func35 Tryz.ntmps35
theorem F85:Fun Tryz.prog 85 81 v85 c85 o85:=Fun.mkA Tryz.func85 Tryz.ntmps85
theorem oV{l:List Rp}{k:Nat}{r y:Rp}(hr:l[k]?=some r)(h:y.id=r.id):gz (l.set k y)=gz l:=by
 unfold gz;rw[List.map_set,h];refine List.ext_getElem? fun i=>?_
 rw[List.getElem?_set];split
 ·rename_i he;subst he;rw[List.getElem?_map,hr];have:=(List.getElem?_eq_some_iff.1 hr).1;simp[this]
 ·rfl
theorem nj{l:List Rp}{k:Nat}{r y:Rp}(hr:l[k]?=some r)(h:y.id=r.id)(ho:rF l):rF (l.set k y):=by
 refine⟨by rw[oV hr h];exact ho.1,fun z hz=>?_⟩;rcases List.mem_or_eq_of_mem_set hz with hz | rfl
 ·exact ho.2 z hz
 ·rw[h];exact ho.2 r (mem_of_getElem? hr)
theorem wR{l:List Rp}{k:Nat}{y:Rp}(h:∀ r∈l,smR r)(hy:smR y):∀ r∈l.set k y,smR r:=fun z hz=>by
 rcases List.mem_or_eq_of_mem_set hz with hz | rfl
 ·exact h z hz
 ·exact hy
theorem Cj(s:Sg)(n:Int):(o6 s n).bytes.length≤s.bytes.length:=by simp[o6]
theorem zi{l:Lg}{n:Int}(h:smL l.segs):smL (ue l n).segs:=fun s hs=>by
 rcases List.mem_or_eq_of_mem_set hs with hs | rfl
 ·exact h s hs
 ·have h1:=Cj (Ba l (l.segs.length - 1)) n;by_cases h2:l.segs=[]
  ·rw[Ba,h2]at h1 ⊢;simp[jC]at h1 ⊢;simp[o6,jC]
  ·obtain⟨s,e1,-⟩:=kz h2;have h3:Ba l (l.segs.length - 1)=s:=by rw[Ba,List.getD_eq_getElem?_getD,e1];rfl
   rw[h3]at h1 ⊢;have:=h s (mem_of_getElem? e1);omega
def kI(r:Rp)(n:Int):Rp:={ r with up:=false,log:=ue r.log n }
def f0(p:Pt)(n:Int):Pt:={ p with leader:=if p.leader=n then -1 else p.leader }
def jA(p:Pt)(n:Int):Pt:=if 1 < p.isr.length then sV p n else p
theorem qC(p:Pt)(n t:Int)(k:Nat)(r:Rp)(h1:¬ t < 0)(h2:r.up=true):lH n t p k r=(eR (ip (jA (f0 p n) n) k (kI r t)),0):=by
 rw[lH,if_neg h1,if_neg (by rw[h2];simp)];unfold jA f0;dsimp only;by_cases h3:1 < p.isr.length
 ·rw[if_pos h3,if_pos h3];rfl
 ·rw[if_neg h3,if_neg h3];rfl
theorem wV(p:Pt)(n t:Int)(b5 b4 k:Nat)(r:Rp)(G:JT)(hok:okP p)(hsm:smP p)(hI:rp p)(hn:I64 n)(ht:I64 t)(h5:fw G ⟨b5,0,none⟩=some (.int .i64 t))(h4:fw G ⟨b4,0,none⟩=some (.int .i64 n))(hr:p.reps[k]?=some r):
  nT G 85 #[.pointer (some ⟨b5,0,none⟩),.pointer (some ⟨b4,0,none⟩)] p k (lH n t p k r):=by
 intro G1 x A c ga d ys zs hg hy hz;have h5:=em hg h5;have h4:=em hg h4;rw[show(#[.pointer (some ⟨x,0,none⟩),.pointer (some ⟨ga,k * 7,none⟩)]++#[.pointer (some ⟨b5,0,none⟩),.pointer (some ⟨b4,0,none⟩)]:Array Value)=#[.pointer (some ⟨x,0,none⟩),.pointer (some ⟨ga,k * 7,none⟩),.pointer (some ⟨b5,0,none⟩),.pointer (some ⟨b4,0,none⟩)]from rfl];have hsr:=hsm.1 r (mem_of_getElem? hr)
 have hor:=hok.1.2.2.2.2 r (mem_of_getElem? hr);have hkl:=(List.getElem?_eq_some_iff.1 hr).1;have hzl:=hz.len;obtain⟨cs,hre,hcl,hld⟩:=hz.get hr;obtain⟨A1,c1,B1,d1,rfl,q1,q2,q3,q4⟩:=hre;refine F85.fnO (by simp) eT (d7 ?_);unfold c85;intros;refine gR 0 0 c85r0.eq_1 ?_;intros;refine dT ?_;intros;refine gR 10 12 c85r1.eq_1 ?_;refine⟨_,⟨_,rfl,.g h5⟩,?_⟩;refine sI ?_;intros;refine gC ?_
 refine gbD (fun k1=>?_) (fun k1=>?_)
 ·intros;refine gR 0 0 c85r2.eq_1 ?_;intros;refine ea (ee [] rfl Ka dS ?_);rw[lH,if_pos k1];exact oJ x _ (by decide)
 intros;try refine dU ?_
 intros;refine gR 13 18 c85r3.eq_1 ?_;refine⟨_,fj (.tail _ (.head _)) (hld 1 _ rfl),?_⟩;refine sI ?_;intros;refine gC ?_;refine gb (fun k2=>?_) (fun k2=>?_)
 ·have k2:r.up=false:=by simpa using k2
  intros;refine gR 0 0 c85r4.eq_1 ?_;intros;refine ea (ee [] rfl Ka dS ?_);rw[lH,if_neg k1,if_pos k2];exact oJ x _ (by decide)
 have k2:r.up=true:=by simpa using k2
 rw[qC p n t k r k1 k2];have hlr:nO r=r.log:=by rw[nO,if_pos k2]
 have hck:gj r.log=0:=by rw[← hlr];exact hor.2.1
 have hne:=(iS hck).2.1;have hn0:0 < r.log.segs.length:=List.length_pos_iff.2 hne;obtain⟨s,e1,e2,e3⟩:=kz hne;have hcl:=ni r.log.segs _ G1 q1 (by have:=hsr.2.1;omega);intros;refine gN ?_;intros;try refine dU ?_
 intros;refine gR 18 24 c85r5.eq_1 ?_;refine⟨_,fj (.tail _ (.head _)) (hld 4 _ rfl),?_⟩;refine sI ?_;refine(jh hcl _ _).mono ?_;rintro v h' ⟨G2,L',rfl,hg2,A2,c2,ss,rfl,-,hss,rfl⟩;refine sI ?_;intros;try refine dU ?_
 refine eI (jK (.head _) hn0) ?_;rintro h' ⟨rfl,g2,c9,he,-,-⟩;cases he;have hw1:IntKind.i64.wrap ((r.log.segs.length:Int) - 1)=((r.log.segs.length - 1:Nat):Int):=by have:=hsr.2.1;rw[eh] <;> omega
 intros;refine gR2 24 29 c85r6.eq_1 @hw1 ?_;refine⟨by omega,_,rfl,?_⟩;refine sJ @Nat.zero_add ?_;obtain⟨cs,hse,hcl2,hld2⟩:=hss.get e1;obtain⟨B3,d3,rfl,hsb,hsi⟩:=hse;unfold fX at hld2;have hsbl:=hsr.1 s (mem_of_getElem? e1);have hmn:(min t (s.bytes.length:Int)).toNat≤s.bytes.length:=by omega
 have hwm:IntKind.i64.wrap ((s.bytes.length:Int) - min t (s.bytes.length:Int))=((s.bytes.length - (min t (s.bytes.length:Int)).toNat:Nat):Int):=by rw[eh] <;> omega
 have hdm:s.bytes.length≤d3:=by
  obtain⟨_,_,he,h1,h2,_⟩:=hsb;cases he;exact h1
 generalize hmm:s.bytes.length - (min t (s.bytes.length:Int)).toNat=m at *;intros;try refine dU ?_
 intros;refine dT ?_;refine Ei (by decide) ?_;refine sJ c85r7.eq_1 ?_;refine⟨_,fj (.head _) (hld2 1 _ rfl),?_⟩;refine sI ?_;refine⟨_,fj (.head _) (hld2 1 _ rfl),?_⟩;refine sI ?_;refine⟨_,⟨_,rfl,.g (em hg2 h5)⟩,?_⟩;refine sI ?_;refine⟨_,fj (.head _) (hld2 1 _ rfl),?_⟩;refine sJ @hwm ?_;refine⟨by omega,?_⟩;refine sJ c85r8.eq_1 ?_;refine fZ [] _ rfl (by simp;have:=hss.len;omega) ⟨rfl,rfl⟩ ?_
 refine sI ?_;have hns:Ba r.log (r.log.segs.length - 1)=s:=by rw[Ba,List.getD_eq_getElem?_getD,e1];rfl
 have htn:o6 s t=⟨s.base,s.bytes.take m⟩:=by rw[← hmm];rfl
 have hlen:(kI r t).log.segs.length=r.log.segs.length:=List.length_set ..;have hss2:Cells (SE G2) 2 (kI r t).log.segs (eu ss ((r.log.segs.length - 1) * 2+1) [.slice B3 m d3]):=by
  have:=Cells.setF (E:=SE G2) (o:=1) (us:=[.slice B3 m d3]) (x':=o6 s t) (eU hss fun _ _ h=>SE.le hg2 h) e1 (by simp) fun cs h hl=>by
   obtain⟨B5,d5,rfl,h1,h2⟩:=h;have hbl:(s.bytes.take m).length=m:=by rw[List.length_take];omega
   rw[htn];refine⟨B3,d3,?_,?_,h2⟩
   ·show[Value.int .i64 s.base,.slice B3 m d3]=[.int .i64 s.base,.slice B3 (s.bytes.take m).length d3];rw[hbl]
   ·show SB G2 (.slice B3 (s.bytes.take m).length d3) (s.bytes.take m);rw[hbl];exact SlV.pre m (SB.le hsb hg2) (by omega)
  show Cells (SE G2) 2 (r.log.segs.set (r.log.segs.length - 1) (o6 (Ba r.log (r.log.segs.length - 1)) t)) _;rw[hns];exact this
 intros;try refine dU ?_
 refine eI (ef [] _ (by decide) hss2) ?_;rintro h' ⟨G3,rfl,hg3,hv3⟩;have hv3:SlV G3 (SE G3) 2 (.slice (some ⟨g2,0,none⟩) (kI r t).log.segs.length c2) (kI r t).log.segs:=by rw[hlen];exact hv3.le (.refl _) fun _ _ h=>SE.le hg3 h
 have hg13:=hg2.trans hg3;have hz3:Cells (RE G3) 7 (p.reps.set k (kI r t)) (eu (eu zs (k * 7+1) [.bool false]) (k * 7+4) [.slice (some ⟨g2,0,none⟩) r.log.segs.length c2]):=by
  have h1:=Cells.setF (E:=RE G3) (o:=1) (us:=[.bool false]) (x':={ r with up:=false }) (eU hz fun _ _ h=>RE.le hg13 h) hr (by simp) fun cs h hl=>by
   obtain⟨A5,c5,B5,d5,rfl,q⟩:=h;exact⟨A5,c5,B5,d5,rfl,q⟩
  have h2:=Cells.setF (E:=RE G3) (o:=4) (us:=[.slice (some ⟨g2,0,none⟩) r.log.segs.length c2]) (x':=kI r t) h1 (jJ hr) (by simp) fun cs h hl=>by
   obtain⟨A5,c5,B5,d5,rfl,q1,q2,q3,q4⟩:=h;refine⟨some ⟨g2,0,none⟩,c2,B5,d5,?_,hv3,q2,q3,q4⟩;rw[← hlen];rfl
  rwa [List.set_set]at h2
 intros;refine gR 50 58 c85r9.eq_1 ?_;refine fZ [_] _ rfl (by simp;omega) ⟨rfl,rfl⟩ ?_;refine sI ?_;refine fZ [_] _ rfl (by simp[eu];omega) ⟨rfl,rfl⟩ ?_;refine sI ?_;generalize eu (eu zs (k * 7+1) [.bool false]) (k * 7+4) [.slice (some ⟨g2,0,none⟩) r.log.segs.length c2]=zs3 at *;intros;try refine dU ?_
 refine eK (fun e h=>e 0=.pointer (some ⟨x,0,none⟩)∧e 3=.pointer (some ⟨b4,0,none⟩)∧h=⟨G3,PtL (f0 p n) x A c (some ⟨ga,0,none⟩) d ys zs3,[]⟩) ?_ ?_
 ·intros;try refine dU ?_
  intros;refine dT ?_;refine pP 58 64 (by decide) ?_;refine sJ c85r10.eq_1 ?_;refine⟨_,dZ (cs:=eH p A c (some ⟨ga,0,none⟩) d) (.head _) rfl,?_⟩;refine sI ?_;refine⟨_,⟨_,rfl,.g (em hg13 h4)⟩,?_⟩;refine sI ?_;intros;refine gC ?_;refine gbD (fun k3=>?_) (fun k3=>?_)
  ·intros;refine gR 65 69 c85r11.eq_1 ?_;refine ei [] _ rfl (by simp[eH]) ⟨rfl,rfl⟩ ?_;refine sI ?_;intros;refine gN ?_;refine eC ⟨eE,eE,?_⟩;unfold f0;rw[if_pos k3];rfl
  ·intros;refine gN ?_;refine eC ⟨eE,eE,?_⟩;unfold f0;rw[if_neg k3];rfl
 rintro e h ⟨e0,e3,rfl⟩;refine dX [0,3] ?_;refine sJ2 @e0 @e3 ?_;intros;try refine dU ?_
 refine eK (fun e h=>∃ (G4:JT) (A':JY) (c':Nat) (ys':JU),(Gle G3 G4∧Cells IE 1 (jA (f0 p n) n).isr ys')∧e 0=.pointer (some ⟨x,0,none⟩)∧h=⟨G4,PtL (jA (f0 p n) n) x A' c' (some ⟨ga,0,none⟩) d ys' zs3,[]⟩) ?_ ?_
 ·intros;try refine dU ?_
  intros;refine gR 69 75 c85r12.eq_1 ?_;refine⟨_,dZ (cs:=eH (f0 p n) A c (some ⟨ga,0,none⟩) d) (.head _) rfl,?_⟩;refine sI ?_;intros;refine gC ?_;refine gb (fun k3=>?_) (fun k3=>?_)
  ·have k3:1 < (f0 p n).isr.length:=by have:=Kb k3;omega
   have hci:jA (f0 p n) n=sV (f0 p n) n:=if_pos k3;rw[hci];have hout:=AX (f0 p n) n x A c (some ⟨ga,0,none⟩) d ys zs3 G3 hy;intros;refine gR 76 79 c85r13.eq_1 ?_;refine⟨_,⟨_,rfl,.g (em hg13 h4)⟩,?_⟩;refine sI ?_;rw[← append_nil (PtL (f0 p n) x A c (some ⟨ga,0,none⟩) d ys zs3)];refine(hout _ _).mono ?_;rintro r' h' ⟨G4,L',rfl,hg4,rfl,A',c',ys',rfl,hy4⟩;rw[append_nil];refine sI ?_
   intros;refine gN ?_;exact eC ⟨G4,A',c',ys',⟨hg4,hy4⟩,eE,rfl⟩
  ·have k3:¬ 1 < (f0 p n).isr.length:=by have:=Kc k3;omega
   have hci:jA (f0 p n) n=f0 p n:=if_neg k3;rw[hci];intros;refine gN ?_;exact eC ⟨G3,A,c,ys,⟨.refl _,hy⟩,eE,rfl⟩
 rintro e h ⟨G4,A',c',ys',⟨hg4,hy4⟩,e0,rfl⟩;refine dX [0] ?_;refine sJ @e0 ?_;have hcr:(jA (f0 p n) n).reps=p.reps:=by unfold jA;split <;> rfl
 have hcI:rp (jA (f0 p n) n):=by
  have h1:I64 (f0 p n).leader:=by
   unfold f0;dsimp only;split
   ·unfold I64;decide
   ·exact hI.2.1
  unfold jA;split <;> exact⟨hI.1,h1,hI.2.2⟩
 have hcin:∀ m∈(jA (f0 p n) n).isr,m∈gz p.reps:=by
  unfold jA;split
  ·exact sT (p:=f0 p n) n hok.2.1.2
  ·exact hok.2.1.2
 generalize jA (f0 p n) n=p3 at *;have hset:=np p3 k (kI r t) x A' c' (some ⟨ga,0,none⟩) d ys' zs3;have hps:(ip p3 k (kI r t)).reps=p.reps.set k (kI r t):=by show p3.reps.set _ _=_;rw[hcr]
 have hraise:=lu (ip p3 k (kI r t)) x A' c' (some ⟨ga,0,none⟩) d ys' zs3 G4 hy4 (by rw[hps];exact eU hz3 fun _ _ h=>RE.le hg4 h) (by rw[hps];exact nj hr rfl (g9 hok))
  (fun m hm=>by rw[hps,oV (y:=kI r t) hr rfl];exact hcin m hm) (by rw[hps];exact qt <| wR hsm.1 ⟨zi hsr.1,by rw[hlen];exact hsr.2.1,hsr.2.2⟩) hcI
 rw[hset]at hraise;intros;try refine dU ?_
 intros;refine gR 79 81 c85r14.eq_1 ?_;rw[← append_nil (PtL p3 x A' c' (some ⟨ga,0,none⟩) d ys' zs3)];refine(hraise _ _).mono ?_;rintro r' h' ⟨G5,L',rfl,hg5,rfl,zs',rfl,hz'⟩;rw[append_nil];refine sI ?_;intros;try refine dU ?_
 intros;refine gR 0 0 c85r15.eq_1 ?_;intros;refine ea (ee _ rfl J9 eT (vO ?_ hz' (la (p:=ip p3 k (kI r t)) hcI)));rw[(hX (ip p3 k (kI r t))).2.2.2.1];exact hy4
theorem yX(p:Pt)(cs:JU)(n t:Int)(G:JT)(hp:PE G p cs)(hsm:smP p)(hn:I64 n)(ht:I64 t):FnD Tryz.prog 35 #[.agg cs.toArray,.int .i64 n,.int .i64 t] G (PtR (ofP p n (lH n t))):=by
 have hp0:=hp;obtain⟨A,c,B,d,rfl,-,-,hI⟩:=hp;refine F35.fnD (by simp) (d7 ?_);unfold c35;unfold eH at hp0 ⊢;intros;refine gR 0 0 c35r0.eq_1 ?_;intro b4 hb4 b5 hb5;refine sI ?_;intros;refine eI (eO [_] _) ?_;rintro h' ⟨G1,rfl,hg1,f5⟩;refine eI (eO [_] _) ?_;rintro h' ⟨G2,rfl,hg2,f4⟩;have f5:=em hg2 (f5 0 _ rfl);have f4:=f4 0 _ rfl;rw[eS]at f4 f5
 have hof:=xS p _ n 85 #[.pointer (some ⟨b5,0,none⟩),.pointer (some ⟨b4,0,none⟩)] (lH n t p) G2 (hp0.le (hg1.trans hg2)) hsm hn fun hok k r _ hr=>wV p n t b5 b4 k r G2 hok hsm hI hn ht f5 f4 hr
 rw[← jS]at hof;intros;refine gR 8 14 c35r1.eq_1 ?_;refine⟨_,⟨_,rfl,.g f4⟩,?_⟩;refine sI ?_;refine(hof _ _).mono ?_;rintro r h' ⟨G2,rfl,hg2,cs2,rfl,hpe⟩;have hpe0:=hpe;obtain⟨A2,c2,B2,d2,rfl,-⟩:=hpe;unfold eH at hpe0 ⊢;refine sI ?_;intros;refine rW ?_;exact⟨_,rfl,hpe0⟩
theorem F25:Fun Tryz.prog 25 19 v25 c25 o25:=Fun.mkA Tryz.func25 Tryz.ntmps25
theorem F66:Fun Tryz.prog 66 90 v66 c66 o66:=Fun.mkA Tryz.func66 Tryz.ntmps66
theorem FJ(x:Batch)(base:Int)(cs:JU)(G:JT)(hx:BE G x cs)(hbi:I64 base):FnD Tryz.prog 67 #[.agg cs.toArray,.int .i64 base] G (fun G' r=>∃ cs',r=.tuple #[.agg cs'.toArray,.int .i64 (fN x base).2]∧BE G' (fN x base).1 cs') :=
 FnO.fnD (L1:=[]) (Ai x base cs G hx hbi) fun G' L' v ⟨cs',h1,h2⟩ _ L D=>(pr.gx h2).mono fun h' ⟨G2,e,hg,hb⟩=>⟨G2,e,hg,cs',h1,hb⟩
theorem zG(l:List Ep)(n s:Int):(mi l n s).1.length≤l.length+1:=by
 unfold mi;split
 ·simp
 ·split
  ·simp
  ·repeat' split
   all_goals simp
theorem HB(l:List Ep)(n s:Int)(v:Value)(G:JT)(hl:SEp G v l)(hb:l.length≤1000000)(in1:I64 n)(is1:I64 s):
  FnO Tryz.prog 70 #[v,.int .i64 n,.int .i64 s] G [] (fun _ L' r=>∃ A c ys,r=.tuple #[.slice A (mi l n s).1.length c,.int .i64 (mi l n s).2]∧Cells EpE 2 (mi l n s).1 ys∧L'=[.row (.slice A (mi l n s).1.length c) 151 2 (mi l n s).1.length ys]):=fun L D =>
 (BS l n s v G hl hb in1 is1 L D).gx fun v h' ⟨G',L',he,hg,u,hr,ys,hc,hL⟩=>by
  subst he hL;exact(gG (.head _)).mono fun h' ⟨h1,A,c,h2,h3,h4⟩=>⟨G',_,h1,hg,A,c,ys,by rw[hr,h2],hc,by rw[h2]⟩
def CL(q:(Pt × Int) × Int)(bb:Nat)(C:JW):Prop:=∃ v,C=[.blk bb [.int .i64 v]]∧(q.1.2=0→v=q.2)
theorem rQ(p:Pt)(b:Batch)(cb:JU)(b3 bb:Nat)(G:JT)(hok:okP p)(hsm:smP p)(hI:rp p)(hb:BE G b cb)(h3:∀ j u,cb[j]?=some u→fw G ⟨b3,j,none⟩=some u):
  DM G 66 #[.pointer (some ⟨b3,0,none⟩),.pointer (some ⟨bb,0,none⟩)] p (lG b p).1 [.blk bb [.int .i64 0]] (CL (lG b p) bb):=by
 intro G1 x A c B d ys zs hg hy hz;have hb:=BE.le hg hb;have h3:∀ j u,cb[j]?=some u→fw G1 ⟨b3,j,none⟩=some u:=fun j u h=>em hg (h3 j u h)
 rw[show(#[.pointer (some ⟨x,0,none⟩)]++#[.pointer (some ⟨b3,0,none⟩),.pointer (some ⟨bb,0,none⟩)]:Array Value)=#[.pointer (some ⟨x,0,none⟩),.pointer (some ⟨b3,0,none⟩),.pointer (some ⟨bb,0,none⟩)]from rfl];have hn0:ez (PtL p x A c B d ys zs++[.blk bb [.int .i64 0]]):=ec (dV (dV (ec dS)))
 have herr:∀ (e v:Int) (q:Pt) (G':JT),e≠0→∀ w,lG b p=((q,e),w)→Av (lG b p).1 x (CL (lG b p) bb) G' [.blk bb [.int .i64 v]] (.int .i64 e):=fun e v q G' he w hq=>by
  rw[hq];exact⟨rfl,[],_,rfl,⟨v,rfl,fun h=>absurd h he⟩,fun _=>rfl,fun h=>absurd h he⟩
 refine F66.fnO (by simp) hn0 (d7 ?_);unfold c66;intros;refine gR 0 0 c66r0.eq_1 ?_;intros;try refine dU ?_
 intros;try refine dU ?_
 intros;refine gR 8 13 c66r1.eq_1 ?_;refine⟨_,dZ (cs:=eH p A c B d) (.head _) rfl,?_⟩;refine sI ?_;intros;refine gC ?_;refine gbD (fun k1=>?_) (fun k1=>?_)
 ·intros;refine gR 0 0 c66r2.eq_1 ?_;intros;refine ea (ee [.blk bb [.int .i64 0]] rfl (by simp[PtL]) (ec dS) (herr 180 0 p _ (by decide) 0 ?_));rw[lG,if_pos k1]
 intros;refine gN ?_;intros;try refine dU ?_
 intros;try refine dU ?_
 intros;refine dT ?_;refine pP 14 25 (by decide) ?_;refine sJ c66r3.eq_1 ?_;refine⟨_,dZ (cs:=eH p A c B d) (.head _) rfl,?_⟩;refine sI ?_;refine⟨_,dZ (cs:=eH p A c B d) (.head _) rfl,?_⟩;refine sI ?_;intros;refine gC ?_;refine gbD (fun k2=>?_) (fun k2=>?_)
 ·intros;refine gR 0 0 c66r4.eq_1 ?_;intros;refine ea (ee [.blk bb [.int .i64 0]] rfl (by simp[PtL]) (ec dS) (herr 181 0 p _ (by decide) 0 ?_));rw[lG,if_neg k1,if_pos k2]
 -- the leader is there
 obtain⟨r0,hr0,hl0,hu0⟩:∃ r∈p.reps,r.id=p.leader∧r.up=true:=by
  rcases hok.2.2 with h | ⟨⟨r,hr,h⟩,-⟩
  ·omega
  ·exact⟨r,hr,h⟩
 obtain⟨k,r,hk,hr,hrl⟩:=ml (l:=p.reps) (n:=p.leader) (List.mem_map.2 ⟨r0,hr0,hl0⟩);have hkl:=(List.getElem?_eq_some_iff.1 hr).1;intros;refine gN ?_;refine eI (jK (.tail _ (.head _)) (by omega)) ?_;rintro h' ⟨rfl,ga,c9,he,-,-⟩;cases he;have hpt:uI (some ⟨ga,0,none⟩) (some k)=some ⟨ga,k * 7,none⟩:=congrArg some (gV _ _);intros;try refine dU ?_
 intros;refine gR 26 33 c66r5.eq_1 ?_;refine⟨_,dZ (cs:=eH p A c (some ⟨ga,0,none⟩) d) (.head _) rfl,?_⟩;refine sI ?_;refine(s9 p x A c (some ⟨ga,0,none⟩) d ys zs p.leader _ [.blk bb [.int .i64 0]] (List.Perm.refl _) hy hz hI.2.1 (g9 hok)).mono ?_;rintro _ _ ⟨rfl,rfl⟩;rw[hk,hpt];refine sI ?_;obtain⟨B2,d2,rfl,-⟩:=id hb;obtain⟨cs,hre,hcl,hld⟩:=hz.get hr;have hre0:=hre
 have hsr:=hsm.1 r (mem_of_getElem? hr);have hend:=ji r cs G1 hre hsr.1 (by have:=hsr.2.1;omega);have hei:=m6 r.log;have hmov:=FJ b (fD r.log) _ G1 hb (by unfold I64;omega);have happ:lG b p=if (fN b (fD r.log)).2≠0 then((p,(fN b (fD r.log)).2),0)else
   (if (jV r.log { (fN b (fD r.log)).1 with epoch:=p.epoch }).2≠0 then((p,(jV r.log { (fN b (fD r.log)).1 with epoch:=p.epoch }).2),(fN b (fD r.log)).1.base)else
    if (mi r.eps p.epoch (fN b (fD r.log)).1.base).2≠0 then((p,(mi r.eps p.epoch (fN b (fD r.log)).1.base).2),(fN b (fD r.log)).1.base)else
     ((eR (ip p k { r with log:=(jV r.log { (fN b (fD r.log)).1 with epoch:=p.epoch }).1,eps:=(mi r.eps p.epoch (fN b (fD r.log)).1.base).1 }),0),(fN b (fD r.log)).1.base)):=by
  rw[lG,if_neg k1,if_neg (by omega),hk];dsimp only;rw[hr]
 generalize fD r.log=en at *;generalize hmb:(fN b en).1=mb at *;generalize hme:(fN b en).2=me at *;obtain⟨A1,c1,B1,d1,rfl,q1,q2,q3,q4⟩:=hre;unfold fL at hend;unfold fo at hmov;intros;try refine dU ?_
 refine eK (fun e h=>∃ (G2:JT) (b6:Nat) (cs6:JU),(Gle G1 G2∧BE G2 mb cs6)∧e 0=.pointer (some ⟨x,0,none⟩)∧e 2=.pointer (some ⟨bb,0,none⟩)∧e 5=.pointer (some ⟨ga,k * 7,none⟩)∧e 6=.pointer (some ⟨b6,0,none⟩)∧e 7=.int .i64 me∧h=⟨G2,.blk b6 cs6 :: (PtL p x A c (some ⟨ga,0,none⟩) d ys zs++[.blk bb [.int .i64 0]]),[]⟩) ?_ ?_
 ·intros;refine dT ?_;refine yY _ J9 (by decide) ?_;refine sJ c66r6.eq_1 ?_;refine⟨_,⟨_,_,rfl,rfl,rfl,fun j u hu=>.g (by rw[gV];exact h3 j u hu)⟩,?_⟩;unfold fo;refine sI ?_;refine⟨_,ic (.tail _ (.head _)) hcl hld,?_⟩;unfold fL;refine sI ?_;refine⟨?_,?_⟩
  ·refine fK (hend _ _) ?_;refine⟨?_,?_⟩
   ·refine(hmov _ _).mono ?_;rintro r' h' ⟨G2,rfl,hg2,cs6,rfl,hbe⟩;have hbe0:=hbe;obtain⟨B6,d6,rfl,-⟩:=hbe;unfold fo;refine sI ?_;refine⟨iZ hg2,?_⟩;refine sI ?_;intro b6 hb6;refine⟨ed hg2 (.cons _ J9),?_⟩;refine sI ?_;refine ei [] _ rfl (by simp) ⟨rfl,rfl⟩ ?_;refine sI ?_;refine⟨ed hg2 (.cons _ J9),?_⟩;refine sI ?_;exact eC ⟨G2,b6,_,⟨hg2,hbe0⟩,eE,eE,eE,eE,eE,rfl⟩
   ·intro b6 hb6;refine⟨ed Kd (.cons _ J9),?_⟩;refine sI ?_;refine(hmov _ _).mono ?_;rintro r' h' ⟨G2,rfl,hg2,cs6,rfl,hbe⟩;have hbe0:=hbe;obtain⟨B6,d6,rfl,-⟩:=hbe;unfold fo;refine sI ?_;refine⟨ed hg2 (.cons _ J9),?_⟩;refine sI ?_;refine ei [] _ rfl (by simp) ⟨rfl,rfl⟩ ?_;refine sI ?_;refine⟨ed hg2 (.cons _ J9),?_⟩;refine sI ?_;exact eC ⟨G2,b6,_,⟨hg2,hbe0⟩,eE,eE,eE,eE,eE,rfl⟩
  ·intro b6 hb6;refine⟨ed Kd (.cons _ J9),?_⟩;refine sI ?_;refine fK (hend _ _) ?_;refine⟨ed Kd (.cons _ J9),?_⟩;refine sI ?_;refine(hmov _ _).mono ?_;rintro r' h' ⟨G2,rfl,hg2,cs6,rfl,hbe⟩;have hbe0:=hbe;obtain⟨B6,d6,rfl,-⟩:=hbe;unfold fo;refine sI ?_;refine⟨ed hg2 (.cons _ J9),?_⟩;refine sI ?_;refine ei [] _ rfl (by simp) ⟨rfl,rfl⟩ ?_;refine sI ?_;refine⟨ed hg2 (.cons _ J9),?_⟩;refine sI ?_
   exact eC ⟨G2,b6,_,⟨hg2,hbe0⟩,eE,eE,eE,eE,eE,rfl⟩
 rintro e h ⟨G2,b6,cs6,⟨hg2,hbe⟩,e0,e2,e5,e6,e7,rfl⟩;refine dX [0,2,5,6,7] ?_;refine sJ5 @e0 @e2 @e5 @e6 @e7 ?_;intros;refine gN ?_;intros;try refine dU ?_
 intros;try refine dU ?_
 intros;refine gR 42 43 c66r7.eq_1 ?_;intros;refine gC ?_;refine gb (fun k3=>?_) (fun k3=>?_)
 ·have k3:=Kb k3;intros;refine gR 44 45 c66r8.eq_1 ?_;intros;refine ea (ee [.blk bb [.int .i64 0]] rfl (by simp[PtL]) (ec dS) (herr me 0 p _ k3 0 ?_));rw[happ,if_pos k3]
 have k3:me=0:=by simpa using k3
 rw[if_neg (fun h=>h k3)]at happ;obtain⟨B6,d6,rfl,hb6,i1,i2,i3,i4,i5⟩:=hbe;have hbe2:BE G2 { mb with epoch:=p.epoch } (fo { mb with epoch:=p.epoch } (.slice B6 mb.recs.length d6)):=⟨B6,d6,rfl,hb6,i1,i2,i3,hI.1,i5⟩;unfold fo at hbe2 ⊢;intros;refine gN ?_;intros;try refine dU ?_
 intros;refine dT ?_;refine zt _ J9 (by decide) ?_;refine sJ c66r9.eq_1 ?_;refine⟨_,dZ (cs:=eH p A c (some ⟨ga,0,none⟩) d) (.tail _ (.head _)) rfl,?_⟩;refine sI ?_;refine⟨_,dZ (.head _) rfl,?_⟩;refine sJ c66r10.eq_1 ?_;refine ei [] _ rfl (by simp) ⟨rfl,rfl⟩ ?_;refine sI ?_;refine ei [_,_,_,_] [] rfl (by simp) ⟨rfl,rfl⟩ ?_;refine sI ?_;intros;try refine dU ?_
 refine dW (h':=⟨G2,.blk b6 [.int .i64 mb.base,.int .i64 mb.last,.int .i64 mb.src,.int .i64 p.epoch,.int .i64 mb.pid,.int .i64 mb.gen,.int .i64 mb.seq,.bool mb.txn,.int .i64 mb.ctl,.slice B6 mb.recs.length d6] :: (PtL p x A c (some ⟨ga,0,none⟩) d ys zs++[.blk bb [.int .i64 mb.base]]),[]⟩) (eL (List.Perm.refl _)) ?_;have hldl:=wd hld
 have hca:=oq r.log { mb with epoch:=p.epoch } _ _ G2 (LE.le hg2 ⟨A1,c1,rfl,q1,q3⟩) hsr.1 hsr.2.1 hbe2;have hmx:=mb.base;unfold eM at hca hldl;dsimp only at hca
 have hb10:∀ j u,([.int .i64 mb.base,.int .i64 mb.last,.int .i64 mb.src,.int .i64 p.epoch,.int .i64 mb.pid,.int .i64 mb.gen,.int .i64 mb.seq,.bool mb.txn,.int .i64 mb.ctl,.slice B6 mb.recs.length d6]:JU)[j]?=some u→([.int .i64 mb.base,.int .i64 mb.last,.int .i64 mb.src,.int .i64 p.epoch,.int .i64 mb.pid,.int .i64 mb.gen,.int .i64 mb.seq,.bool mb.txn,.int .i64 mb.ctl,.slice B6 mb.recs.length d6]:JU)[0+j]?=some u:=fun j u h=>by rw[Nat.zero_add];exact h
 generalize hap:jV r.log { mb with epoch:=p.epoch }=ap at *;obtain⟨al,ae⟩:=ap;dsimp only at happ;intros;try refine dU ?_
 intros;try refine dU ?_
 intros;refine dT ?_;refine pQ _ J9 (by decide) ?_;refine sJ c66r11.eq_1 ?_;refine⟨_,ic (.tail _ (.tail _ (.head _))) rfl hldl,?_⟩;refine sI ?_;refine⟨_,lk (.head _) rfl hb10,?_⟩;refine sI ?_;refine(hca _ _).mono ?_;rintro v h' ⟨G3,rfl,hg3,cs7,rfl,hle⟩;dsimp only at hle;have hle0:=hle;obtain⟨A7,c7,rfl,hsl7,hlim7⟩:=hle;unfold eM;refine sI ?_;refine gy ?_;refine sI ?_
 refine fZ [_,_] _ rfl (by simp;have:=hz.len;omega) ⟨rfl,rfl⟩ ?_;refine sI ?_;refine gy ?_;refine sI ?_;have hz2:Cells (RE G3) 7 (p.reps.set k { r with log:=al }) (eu zs (k * 7+2) [.int .i64 al.limit,.int .i64 al.start,.slice A7 al.segs.length c7]) :=
  Cells.setF (E:=RE G3) (x':={ r with log:=al }) (eU hz fun _ _ h=>RE.le (hg2.trans hg3) h) hr (by simp) fun cs h hl=>by
   obtain⟨A5,c5,B5,d5,rfl,q1,q2,q3,q4⟩:=h;exact⟨A7,c7,B5,d5,rfl,hsl7,q2,hlim7,q4⟩
 refine dW (h':=⟨G3,.blk b6 [.int .i64 mb.base,.int .i64 mb.last,.int .i64 mb.src,.int .i64 p.epoch,.int .i64 mb.pid,.int .i64 mb.gen,.int .i64 mb.seq,.bool mb.txn,.int .i64 mb.ctl,.slice B6 mb.recs.length d6] :: (PtL p x A c (some ⟨ga,0,none⟩) d ys (eu zs (k * 7+2) [.int .i64 al.limit,.int .i64 al.start,.slice A7 al.segs.length c7])++[.blk bb [.int .i64 mb.base]]),[]⟩) (eL (List.Perm.refl _)) ?_
 generalize eu zs (k * 7+2) [.int .i64 al.limit,.int .i64 al.start,.slice A7 al.segs.length c7]=zs2 at *;intros;try refine dU ?_
 intros;refine gR 65 66 c66r12.eq_1 ?_;intros;refine gC ?_;refine gb (fun k4=>?_) (fun k4=>?_)
 ·have k4:=Kb k4;intros;refine gR 67 68 c66r13.eq_1 ?_;intros;refine ea (ee [.blk bb [.int .i64 mb.base]] rfl (by simp[PtL]) (ec dS) (herr ae mb.base p _ k4 mb.base ?_));rw[happ,if_pos k4]
 have k4:ae=0:=by simpa using k4
 rw[if_neg (fun h=>h k4)]at happ;clear hld hldl hcl;have hr2:=jJ (y:={ r with log:=al }) hr;obtain⟨cs,hre2,hcl,hld⟩:=hz2.get hr2;obtain⟨A8,c8,B8,d8,rfl,q1,q2,q3,q4⟩:=hre2;have hput:=HB r.eps p.epoch mb.base _ G3 q2 (by have:=hsr.2.2;omega) hI.1 i1;have hpl:=zG r.eps p.epoch mb.base;generalize mi r.eps p.epoch mb.base=pp at *;obtain⟨pl,pe⟩:=pp;dsimp only at happ hput hpl;intros;refine gN ?_
 intros;try refine dU ?_
 intros;try refine dU ?_
 intros;refine dT ?_;refine pQ _ J9 (by decide) ?_;refine sJ c66r14.eq_1 ?_;refine⟨_,fj (.tail _ (.tail _ (.head _))) (hld 5 _ rfl),?_⟩;refine sI ?_;refine⟨_,dZ (cs:=eH p A c (some ⟨ga,0,none⟩) d) (.tail _ (.head _)) rfl,?_⟩;refine sI ?_;refine⟨_,dZ (b:=bb) (.tail _ (.tail _ (.tail _ (.tail _ (.head _))))) rfl,?_⟩;refine sI ?_;refine(hput _ _).mono ?_
 rintro v h' ⟨G4,L',rfl,hg4,A9,c9,ye,rfl,hye,rfl⟩;refine sI ?_;refine gy ?_;refine sI ?_;refine fZ [_,_,_] _ rfl (by simp;have:=hz2.len;rw[List.length_set]at this;omega) ⟨rfl,rfl⟩ ?_;refine sI ?_;refine gy ?_;refine sI ?_
 refine dW (h':=⟨G4,[.row (.slice A9 pl.length c9) 151 2 pl.length ye,.blk b6 [.int .i64 mb.base,.int .i64 mb.last,.int .i64 mb.src,.int .i64 p.epoch,.int .i64 mb.pid,.int .i64 mb.gen,.int .i64 mb.seq,.bool mb.txn,.int .i64 mb.ctl,.slice B6 mb.recs.length d6]]++(PtL p x A c (some ⟨ga,0,none⟩) d ys (eu zs2 (k * 7+5) [.slice A9 pl.length c9])++[.blk bb [.int .i64 mb.base]]),[]⟩) (eL (List.Perm.refl _)) ?_
 refine eI (ef [] _ (by decide) hye) ?_;rintro h' ⟨G5,rfl,hg5,hv5⟩;have hz3:Cells (RE G5) 7 (p.reps.set k { r with log:=al,eps:=pl }) (eu zs2 (k * 7+5) [.slice A9 pl.length c9]):=by
  have:=Cells.setF (E:=RE G5) (o:=5) (us:=[.slice A9 pl.length c9]) (x':={ r with log:=al,eps:=pl }) (eU hz2 fun _ _ h=>RE.le (hg4.trans hg5) h) hr2 (by simp) fun cs h hl=>by
   obtain⟨A5,c5,B5,d5,rfl,q1,q2,q3,q4⟩:=h;exact⟨A5,c5,A9,c9,rfl,q1,hv5,q3,q4⟩
  rwa [List.set_set]at this
 generalize eu zs2 (k * 7+5) [.slice A9 pl.length c9]=zs3 at *;refine dW (h':=⟨G5,PtL p x A c (some ⟨ga,0,none⟩) d ys zs3++[.blk bb [.int .i64 mb.base]],[]⟩) (dY (.cons _ J9)) ?_;intros;try refine dU ?_
 intros;refine gR 85 86 c66r15.eq_1 ?_;intros;refine gC ?_;refine gb (fun k5=>?_) (fun k5=>?_)
 ·have k5:=Kb k5;intros;refine gR 87 88 c66r16.eq_1 ?_;intros;refine ea (ee [.blk bb [.int .i64 mb.base]] rfl (by simp[PtL]) (ec dS) (herr pe mb.base p _ k5 mb.base ?_));rw[happ,if_pos k5]
 have k5:pe=0:=by simpa using k5
 rw[if_neg (fun h=>h k5)]at happ;have hal:=lY (l:=r.log) (b:={ mb with epoch:=p.epoch }) (by rw[hap];exact k4);rw[hap]at hal;have hca2:=hal.2.2.1;dsimp only at hca2;have hraise:=lu (ip p k { r with log:=al,eps:=pl }) x A c (some ⟨ga,0,none⟩) d ys zs3 G5 hy hz3 (nj hr rfl (g9 hok)) (fun m hm=>by show m∈gz (p.reps.set k _);rw[oV (y:={ r with log:=al,eps:=pl }) hr rfl];exact hok.2.1.2 m hm)
  (fun z hz=>by
   rcases List.mem_or_eq_of_mem_set hz with hz | rfl
   ·exact qt hsm.1 z hz
   ·exact⟨ru hca2,by have:=(iS hca2).2.2.2;show al.segs.length≤_;omega,by have:=hsr.2.2;show pl.length≤_;omega⟩) hI
 rw[np]at hraise;rw[happ];intros;refine gN ?_;intros;try refine dU ?_
 intros;refine gR 88 90 c66r17.eq_1 ?_;refine(hraise _ _).mono ?_;rintro r' h' ⟨G6,L',rfl,hg6,rfl,zs',rfl,hz'⟩;refine sI ?_;intros;try refine dU ?_
 intros;refine gR 0 0 c66r18.eq_1 ?_;intros;refine ea (ee _ rfl J9 (fun s cs hm=>?_) ⟨rfl,_,_,rfl,⟨mb.base,rfl,fun _=>rfl⟩,fun h=>absurd rfl h,fun _=>⟨A,c,some ⟨ga,0,none⟩,d,ys,zs',rfl,?_,hz',la (p:=ip p k _) hI⟩⟩)
 ·rcases List.mem_append.1 hm with h | h
  ·exact eT s cs h
  ·simp at h
 ·rw[(hX (ip p k { r with log:=al,eps:=pl })).2.2.2.1];exact hy
def Jv(q:(Pt × Int) × Int)(G:JT)(r:Value):Prop:=∃ cs,r=.tuple #[.agg cs.toArray,.int .i64 q.2,.int .i64 q.1.2]∧PE G q.1.1 cs
theorem nW(p:Pt)(b:Batch)(cs cb:JU)(G:JT)(hp:PE G p cs)(hsm:smP p)(hb:BE G b cb):FnD Tryz.prog 25 #[.agg cs.toArray,.agg cb.toArray] G (Jv (FO p b)):=by
 have hp0:=hp;have hb0:=hb;obtain⟨A,c,B,d,rfl,-,-,hI⟩:=hp;obtain⟨B2,d2,rfl,-⟩:=hb;refine F25.fnD (by simp) (d7 ?_);unfold c25;unfold eH at hp0 ⊢;unfold fo at hb0 ⊢;intros;refine gR 0 0 c25r0.eq_1 ?_;intro b3 hb3 b5 hb5;refine sI ?_;intros;refine eI (eO [_,_] _) ?_;rintro h' ⟨G1,rfl,hg1,f3⟩
 have hch:=pZ p _ 66 #[.pointer (some ⟨b3,0,none⟩),.pointer (some ⟨b5,0,none⟩)] (lG b p).1 [.blk b5 [.int .i64 0]] (CL (lG b p) b5) G1 (hp0.le hg1) hsm (ec dS) (fun C h=>by obtain⟨v,rfl,-⟩:=h;exact ec dS) fun hok =>
  rQ p b _ b3 b5 G1 hok hsm hI (BE.le hg1 hb0) fun j u hu=>by have:=f3 j u hu;rwa [gV]at this
 have hq:FO p b=if (nL p (lG b p).1).2=0 then(nL p (lG b p).1,(lG b p).2)else((j5,(nL p (lG b p).1).2),0):=rfl
 intros;try refine dU ?_
 intros;refine gR 7 13 c25r1.eq_1 ?_;refine(hch _ _).mono ?_;rintro r h' ⟨G2,L',rfl,hg2,⟨cs2,rfl,hpe⟩,-,hL⟩;obtain⟨v,rfl,hv⟩:∃ v,L'=[.blk b5 [.int .i64 v]]∧((nL p (lG b p).1).2=0→v=(lG b p).2):=by
  rcases hL with⟨v,h1,h2⟩ | ⟨h1,h2⟩
  ·refine⟨v,h1,fun h=>h2 ?_⟩;unfold nL at h;split at h
   ·split at h
    ·assumption
    ·exact h
   ·rename_i h3;exact absurd h h3
  ·refine⟨0,h2,fun h=>?_⟩;rw[nL,if_neg h1]at h;exact absurd h h1
 generalize hcq:nL p (lG b p).1=cq at *;have hpe0:=hpe;obtain⟨A2,c2,B2,d2,rfl,-⟩:=hpe;unfold eH at hpe0 ⊢;refine sI ?_;intros;try refine dU ?_
 intros;try refine dU ?_
 intros;refine gR 13 14 c25r2.eq_1 ?_;intros;refine gC ?_;refine gb (fun k1=>?_) (fun k1=>?_)
 ·have k1:=Kb k1;intros;refine gR 15 17 c25r3.eq_1 ?_;refine ei [] _ rfl (by simp) ⟨rfl,rfl⟩ ?_;refine sI ?_;intros;refine ea (je (out:=[.agg #[.int .i64 0,.int .i64 0,.int .i64 0,.slice none 0 0,.slice none 0 0],.int .i64 0,.int .i64 cq.2]) ?_ ?_)
  ·simp[o25,mr,Kx.getR,Kx.getB,uJ,ldC,Env.set]
  rw[hq,if_neg k1];exact⟨_,rfl,none,0,none,0,rfl,slN,slN,iH,iH,iH⟩
 have k1:cq.2=0:=by simpa using k1
 intros;refine gN ?_;intros;try refine dU ?_
 intros;refine dT ?_;refine pQ _ (.cons_cons _ (.cons_cons _ Ka)) (by decide) ?_;refine sJ c25r4.eq_1 ?_;refine⟨_,dZ (.head _) rfl,?_⟩;refine sI ?_;refine⟨⟨Kd,.cons_cons _ (.cons_cons _ Ka),rfl⟩,?_⟩;refine ei [] _ rfl (by simp) ⟨rfl,rfl⟩ ?_;refine sI ?_;refine gy ?_;refine sI ?_;intros
 refine ea (je (out:=[.agg #[.int .i64 cq.1.epoch,.int .i64 cq.1.leader,.int .i64 cq.1.least,.slice A2 cq.1.isr.length c2,.slice B2 cq.1.reps.length d2],.int .i64 v,.int .i64 0]) ?_ ?_)
 ·simp[o25,mr,Kx.getR,Kx.getB,uJ,ldC,Env.set]
 rw[hq,if_pos k1];refine⟨_,?_,hpe0⟩;rw[hv k1,k1];rfl
theorem F13:Fun Tryz.prog 13 64 v13 c13 o13:=Fun.mkA Tryz.func13 Tryz.ntmps13
theorem F15:Fun Tryz.prog 15 26 v15 c15 o15:=Fun.mkA Tryz.func15 Tryz.ntmps15
def newR(L0:Lg)(n:Int):Rp:=⟨n,true,L0,[],0⟩
theorem xf(l:J6)(limit least:Int)(v:Value)(G:JT)(hl:SlV G IE 1 v l)(hb:l.length≤100000)(hi:I64 least):FnD Tryz.prog 13 #[v,.int .i64 limit,.int .i64 least] G (PtR (rm l limit least)):=by
 have hl0:=hl;obtain⟨A,c,rfl,hc,hmx,hA⟩:=hl;refine F13.fnD (by simp) (d7 ?_);unfold c13;intros;refine gR 0 0 c13r0.eq_1 ?_;intros;refine gR 13 18 c13r1.eq_1 ?_;refine(Df limit 0 G _ _).mono ?_;rintro r h' ⟨G1,rfl,hg1,cs,rfl,hle⟩
 have hnp1:((pL limit 0).2=0∧fV l∧l.length≤5∧1≤least∧least≤(l.length:Int))→rm l limit least=(⟨1,l.headD 0,least,l,l.map (newR (pL limit 0).1)⟩,0):=fun h=>by unfold rm;rw[if_pos h];rfl
 have hnp0:¬ ((pL limit 0).2=0∧fV l∧l.length≤5∧1≤least∧least≤(l.length:Int))→rm l limit least=(j5,1):=fun h=>by unfold rm;rw[if_neg h]
 have hl1:=hl0.le (E':=IE) hg1 Kd;generalize pL limit 0=nl at *;obtain⟨L0,e0⟩:=nl;dsimp only at hle hnp0 hnp1;have hle0:=hle;obtain⟨A3,c3,rfl,hs3,hlim⟩:=hle
 have hno:¬ (e0=0∧fV l∧l.length≤5∧1≤least∧least≤(l.length:Int))→∀ (fr:J0) (e:Env),go none Tryz.prog 64 v13.1 v13.2 (fB o13 fun v h=>PtR (rm l limit least) h.G v) (Td.s ((SC.reg false c13r3).seq .ret) :: fr) e ⟨G1,[.reg 8 [.int .i64 L0.limit,.int .i64 L0.start,.slice A3 L0.segs.length c3],.reg 6 [.int .i64 0,.int .i64 0,.int .i64 0,.slice none 0 0,.slice none 0 0]],[]⟩:=fun hn fr e=>by
  intros;refine gR 40 41 c13r3.eq_1 ?_;intros;refine ea (je rfl ?_);rw[hnp0 hn];exact nD _ _
 unfold eM;refine sI ?_;intros;try refine dU ?_
 intros;try refine dU ?_
 intros;refine gR 18 39 c13r2.eq_1 ?_;refine gd (fun k1=>?_) (fun k1=>?_)
 ·have k1:=Kb k1;refine sI ?_;intros;refine gC ?_;exact hno (fun h=>k1 h.1) _ _
 have k1:e0=0:=by simpa using k1
 refine sI ?_;refine fK (pK _ _ _ hl1 _ _) ?_;refine gd (fun k2=>?_) (fun k2=>?_)
 ·have k2:AI l=false:=by simpa using k2
  refine sI ?_;intros;refine gC ?_;exact hno (fun h=>by have:=tJ h.2.1;rw[k2]at this;cases this) _ _
 have k2:fV l:=po.1 (by simpa using k2);refine sI ?_;refine gdD (fun k3=>?_) (fun k3=>?_)
 ·refine sI ?_;intros;refine gC ?_;exact hno (fun h=>by have:=h.2.2.1;omega) _ _
 refine sI ?_;refine gdD (fun k4=>?_) (fun k4=>?_)
 ·refine sI ?_;intros;refine gC ?_;exact hno (fun h=>by have:=h.2.2.2.1;omega) _ _
 refine sI ?_;intros;refine gC ?_;refine gbD (fun k5=>?_) (fun k5=>?_)
 ·exact hno (fun h=>by have:=h.2.2.2.2;omega) _ _
 rw[hnp1 ⟨k1,k2,by omega,by omega,by omega⟩];clear hno hnp0 hnp1;obtain⟨y0,hy0⟩:∃ y,l[0]?=some y:=⟨l[0]'(List.length_pos_iff.2 k2.1),getElem?_eq_getElem _⟩;have hhd:l.headD 0=y0:=by
  cases l with
  | nil=>cases hy0
  | cons a l=>cases hy0;rfl
 have hy0i:I64 y0:=by
  obtain⟨a,u,_,hu,_⟩:=hA.at1 hy0 [] [];exact hu.2
 have hcl:=fun G2 (hg:Gle G1 G2)=>qo l _ G2 (hl1.le (E':=IE) hg Kd) (by omega)
 rw[hhd];obtain⟨A0,c0,he0,hc0,hm0,hA1⟩:=id hl1;cases he0;intros;refine gN ?_;intros;try refine dU ?_
 refine eK (fun e h=>∃ (G2:JT) (b10:Nat) (A4:JY) (c4:Nat) (ys:JU) (Lh:JW),(Gle G1 G2∧Cells IE 1 l ys)∧e 10=.pointer (some ⟨b10,0,none⟩)∧e 0=.slice A l.length c∧h=⟨G2,Lh,[]⟩∧Lh.Perm [.blk b10 [.int .i64 1,.int .i64 y0,.int .i64 least,.slice A4 l.length c4,.slice none 0 0],.row (.slice A4 l.length c4) 3 1 l.length ys,.reg 8 [.int .i64 L0.limit,.int .i64 L0.start,.slice A3 L0.segs.length c3],.reg 6 [.int .i64 0,.int .i64 0,.int .i64 0,.slice none 0 0,.slice none 0 0]]) ?_ ?_
 ·intros;refine dT ?_;refine yY _ J9 (by decide) ?_;refine sJ c13r4.eq_1 ?_;refine hA1.y_l1 hy0 rfl rfl ?_;rintro a1 ha1 u1 ⟨hu,-⟩;cases hu;refine sI ?_;refine⟨?_,?_⟩
  ·refine(jh (hcl G1 (.refl _)) _ _).mono ?_;rintro r h' ⟨G2,L',rfl,hg2,A4,c4,ys,rfl,-,hys,rfl⟩;refine⟨ed hg2 (.cons _ J9),?_⟩;refine sI ?_;intro b10 hb10;refine⟨ed hg2 (.cons _ (.cons _ J9)),?_⟩;refine sI ?_;refine ei [] _ rfl (by simp) ⟨rfl,rfl⟩ ?_;refine sI ?_;refine⟨ed hg2 (.cons _ (.cons _ J9)),?_⟩;refine sI ?_;exact eC ⟨G2,b10,A4,c4,ys,_,⟨hg2,hys⟩,eE,eE,rfl,List.Perm.refl _⟩
  ·intro b10 hb10;refine⟨ed Kd (.cons _ J9),?_⟩;refine sI ?_;refine(jh (hcl G1 (.refl _)) _ _).mono ?_;rintro r h' ⟨G2,L',rfl,hg2,A4,c4,ys,rfl,-,hys,rfl⟩;refine⟨ed hg2 (.cons _ (.cons _ J9)),?_⟩;refine sI ?_;refine ei [_] _ rfl (by simp) ⟨rfl,rfl⟩ ?_;refine sI ?_;refine⟨ed hg2 (.cons _ (.cons _ J9)),?_⟩;refine sI ?_;exact eC ⟨G2,b10,A4,c4,ys,_,⟨hg2,hys⟩,eE,eE,rfl,List.Perm.swap _ _ _⟩
 rintro e h ⟨G2,b10,A4,c4,ys,Lh,⟨hg2,hys⟩,e10,e0,rfl,hperm⟩;refine dX [0,10] ?_;refine sJ2 @e0 @e10 ?_;intros;refine dW (eL hperm) ?_;refine eI (ef [_] _ (by decide) hys) ?_;rintro h' ⟨G3,rfl,hg3,hv3⟩;have hg23:=hg2.trans hg3;have hA3:=hA1.le (E':=IE) hg23 Kd;have hs3:=SlSE.le hg23 hs3;refine dW (ew none 50 7) ?_;have hml:∀ k,((l.take k).map (newR L0)).length≤l.length:=fun k=>by simp;omega
 intros;try refine dU ?_
 refine eK (fun e h=>∃ (u:Value) (zc:JU),Cells (RE G3) 7 (l.map (newR L0)) zc∧e 10=.pointer (some ⟨b10,0,none⟩)∧h=⟨G3,[.row u 50 7 l.length zc,.blk b10 [.int .i64 1,.int .i64 y0,.int .i64 least,.slice A4 l.length c4,u],.reg 8 [.int .i64 L0.limit,.int .i64 L0.start,.slice A3 L0.segs.length c3],.reg 6 [.int .i64 0,.int .i64 0,.int .i64 0,.slice none 0 0,.slice none 0 0]],[]⟩) ?_ ?_
 ·intros;try refine dU ?_
  intros;refine gR 0 0 c13r5.eq_1 ?_;intros;refine dT ?_
  refine ej (fun e h=>∃ (k:Nat) (u:Value) (zc:JU),(k≤l.length∧Cells (RE G3) 7 ((l.take k).map (newR L0)) zc)∧e 50=.int .i64 k∧e 49=.int .i64 l.length∧e 48=.slice A l.length c∧e 10=.pointer (some ⟨b10,0,none⟩)∧h=⟨G3,[.row u 50 7 ((l.take k).map (newR L0)).length zc,.blk b10 [.int .i64 1,.int .i64 y0,.int .i64 least,.slice A4 l.length c4,u],.reg 8 [.int .i64 L0.limit,.int .i64 L0.start,.slice A3 L0.segs.length c3],.reg 6 [.int .i64 0,.int .i64 0,.int .i64 0,.slice none 0 0,.slice none 0 0]],[]⟩) (fun e h=>l.length - iv (e 50)) ?_ ?_
  ·exact⟨0,.slice none 0 0,[],⟨Nat.zero_le _,.nil⟩,eE,eE,eE,eE,rfl⟩
  rintro e h ⟨k,u,zc,⟨hk,hzc⟩,e50,e49,e48,e10,rfl⟩;refine dX [10,48,49,50] ?_;refine sJ4 @e10 @e48 @e49 @e50 ?_;intros;refine gR 0 0 c13r6.eq_1 ?_;intros;refine gC ?_;refine gb (fun ht=>?_) (fun ht=>?_)
  ·have ht:k < l.length:=by have:=Kb ht;omega
   have hw:=eY k c (by omega) hmx;obtain⟨n,hn⟩:∃ s,l[k]?=some s:=⟨l[k],getElem?_eq_getElem (by omega)⟩;have htk:(l.take (k+1)).map (newR L0)=(l.take k).map (newR L0)++[newR L0 n]:=by rw[eG hn,List.map_append];rfl
   have hkl:=hml k;intros;refine gN ?_;intros;try refine dU ?_
   intros;refine gR 52 54 c13r7.eq_1 ?_;refine hA3.x_l1 hn rfl rfl ?_;rintro a1 ha1 u1 ⟨hu,hni⟩;cases hu;refine sI ?_;have hre:RE G3 (newR L0 n) [.int .i64 n,.bool true,.int .i64 L0.limit,.int .i64 L0.start,.slice A3 L0.segs.length c3,.slice none 0 0,.int .i64 0]:=⟨A3,c3,none,0,rfl,hs3,slN,hlim,hni,iH⟩;intros;refine gR 54 62 c13r8.eq_1 ?_;refine⟨_,dZ (.tail _ (.head _)) rfl,?_⟩;refine sI ?_
   intro bk hbk;refine ts (L1:=[]) (L2:=[_,_,_]) (E:=RE G3) (x:=newR L0 n) rfl hre rfl (by simp[Value.oneCell']) hzc (by omega) (by omega) fun A' c' zc' hzc'=>?_
   rw[← htk]at hzc' ⊢;refine sI ?_;refine ei [_,_] [_,_] rfl (by simp) ⟨rfl,rfl⟩ ?_;refine sI ?_;intros;refine gN ?_;refine dW (dY (.cons _ J9)) ?_;intros;refine gR2 62 63 c13r9.eq_1 @hw ?_;intros;refine dT ?_;refine eC ⟨⟨k+1,_,zc',⟨by omega,hzc'⟩,eE,eE,eE,eE,rfl⟩,?_⟩;refine sI ?_;omega
  ·have ht:k=l.length:=by have:=Kc ht;omega
   subst ht;rw[take_length]at hzc ⊢;rw[List.length_map];refine eg ?_;refine sI ?_;intros;refine gN ?_;exact eC ⟨u,zc,hzc,eE,rfl⟩
 rintro e h ⟨u,zc,hzc,e10,rfl⟩;refine dX [10] ?_;refine sJ @e10 ?_;intros;refine eI (ef [] _ (by decide) hzc) ?_;rintro h' ⟨G4,rfl,hg4,hv4⟩;obtain⟨A5,c5,rfl,hc5,hm5,hA5⟩:=hv4;rw[List.length_map];intros;try refine dU ?_
 intros;refine gR 63 64 c13r10.eq_1 ?_;refine⟨_,lk (us:=[.int .i64 1,.int .i64 y0,.int .i64 least,.slice A4 l.length c4,.slice A5 l.length c5]) (.head _) rfl (fun j u h=>by rw[Nat.zero_add];exact h),?_⟩;refine sI ?_;intros;refine rW ?_;refine⟨_,rfl,A4,c4,A5,c5,?_,hv3.le (E':=IE) hg4 Kd,?_,show I64 1 from by unfold I64;decide,hy0i,hi⟩
 ·unfold eH;dsimp only;rw[List.length_map]
 ·show SlV G4 (RE G4) 7 (.slice A5 (l.map (newR L0)).length c5) (l.map (newR L0));exact⟨A5,c5,rfl,hc5,hm5,hA5.le Kd fun _ _ h=>RE.le hg4 h⟩
theorem qE{G:JT}{l:List Rp}{B:JY}{n d:Nat}{k:Nat}{r:Rp}(h:SlV G (RE G) 7 (.slice B n d) l)(hr:l[k]?=some r):
  ∃ a A1 c1 B1 d1,B=some a∧RE G r (fL r A1 c1 B1 d1)∧(∀ L D,LdN ⟨G,L,D⟩ (.pointer (some ((a.add (k * 7)).add 2))) (some 3) (.agg (eM r.log A1 c1).toArray))∧∀ L D o u,(fL r A1 c1 B1 d1)[o]?=some u→LdN ⟨G,L,D⟩ (.pointer (some ((a.add (k * 7)).add o))) none u:=by
 obtain⟨A0,d0,he,-,-,hA⟩:=h;cases he;obtain⟨a,cs,ha,h1,h2,h4⟩:=hA k r hr;have h20:=h2;obtain⟨A,c,B,d,rfl,-⟩:=h2;refine⟨a,A,c,B,d,ha,h20,fun L D=>⟨_,_,rfl,rfl,rfl,fun j u hu=>?_⟩,fun L D o u hu=>⟨_,rfl,?_⟩⟩
 ·rw[gp,gp];refine .g (h4 (2+j) u ?_)
  match j,hu with
  | 0,h=>exact h
  | 1,h=>exact h
  | 2,h=>exact h
  | j+3,h=>cases h
 ·rw[gp];exact .g (h4 o u hu)
theorem nf{p:Pt}(h:okP p)(h0:¬ p.leader < 0):∃ k r,atR p.reps p.leader=some k∧p.reps[k]?=some r∧r.id=p.leader:=by
 obtain⟨r0,hr0,hl0⟩:∃ r∈p.reps,r.id=p.leader:=by
  rcases h.2.2 with h | ⟨⟨r,hr,h,-⟩,-⟩
  ·omega
  ·exact⟨r,hr,h⟩
 exact ml (l:=p.reps) (n:=p.leader) (List.mem_map.2 ⟨r0,hr0,hl0⟩)
theorem wC(p:Pt)(cs:JU)(G:JT)(hp:PE G p cs)(hsm:smP p):FnD Tryz.prog 15 #[.agg cs.toArray] G (LgR (kL p)):=by
 have hchk:=jm p cs G hp hsm;have hp0:=hp;obtain⟨A,c,B,d,rfl,hv1,hv2,hI⟩:=hp;refine F15.fnD (by simp) (d7 ?_);unfold c15;unfold eH at hchk ⊢;intros;refine gR 0 0 c15r0.eq_1 ?_;intros;try refine dU ?_
 intros;try refine dU ?_
 intros;refine gR 6 8 c15r1.eq_1 ?_;refine fK (hchk _ _) ?_;intros;try refine dU ?_
 intros;refine gR 8 9 c15r2.eq_1 ?_;intros;refine gC ?_;refine gb (fun k1=>?_) (fun k1=>?_)
 ·have k1:=Kb k1;intros;refine gR 10 12 c15r3.eq_1 ?_;intros;refine rW ?_;rw[kL,if_pos k1];exact gB
 have k1:fI p=0:=by simpa using k1
 have hok:=nH k1;intros;refine gN ?_;intros;try refine dU ?_
 intros;try refine dU ?_
 intros;refine gR 13 14 c15r4.eq_1 ?_;intros;refine gC ?_;refine gbD (fun k2=>?_) (fun k2=>?_)
 ·intros;refine gR 15 16 c15r5.eq_1 ?_;intros;refine rW ?_;rw[kL,if_neg (fun h=>h k1),if_pos k2];exact gB
 obtain⟨k,r,hk,hr,-⟩:=nf hok k2;have hld:kL p=(r.log,0):=by
  rw[kL,if_neg (fun h=>h k1),if_neg k2,hk];dsimp only;rw[hr];rfl
 rw[hld];intros;refine gN ?_;intros;try refine dU ?_
 intros;refine gR 16 19 c15r6.eq_1 ?_;intro x hx;refine sI ?_;intros;refine eI (eO [] _) ?_;rintro h' ⟨G1,rfl,hg1,f1⟩;have hpt:PtG G1 p x A c B d:=⟨fun j u hu=>by have:=f1 j u hu;rwa [gV]at this,hv1.le (E':=IE) hg1 Kd,SlR.le hg1 hv2⟩;obtain⟨a,A1,c1,B1,d1,rfl,hre,hl3,-⟩:=qE hpt.2.2 hr;obtain⟨A9,c9,B9,d9,he9,hs9,-,hlim,-⟩:=hre;unfold fL at he9;cases he9;unfold eM at hl3
 have hat:=zh p x A c (some a) d p.leader G1 hpt hI.2.1 (g9 hok);rw[hk]at hat;have hat:FnS Tryz.prog 51 #[.pointer (some ⟨x,0,none⟩),.int .i64 p.leader] G1 (.pointer (some (a.add (k * 7)))):=hat;intros;try refine dU ?_
 intros;refine gR 19 26 c15r7.eq_1 ?_;refine fK (hat _ _) ?_;refine⟨_,hl3 _ _,?_⟩;refine sI ?_;intros;refine rW ?_;exact⟨_,rfl,A1,c1,rfl,hs9,hlim⟩
theorem F20:Fun Tryz.prog 20 32 v20 c20 o20:=Fun.mkA Tryz.func20 Tryz.ntmps20
def sb(l:List Rp)(m n:Int):Int:=max m (match atR l n with | some k=>(l[k]?.map (·.high)).getD 0 | none=>0)
theorem Dl{l:List Rp}{m n:Int}{k:Nat}{r:Rp}(h:atR l n=some k)(hr:l[k]?=some r):sb l m n=max m r.high:=by
 unfold sb;rw[h];dsimp only;rw[hr];rfl
theorem nu(p:Pt)(cs:JU)(G:JT)(hp:PE G p cs)(hsm:smP p):FnS Tryz.prog 20 #[.agg cs.toArray] G (.int .i64 (kK p)):=by
 have hchk:=fun G' hg=>jm p cs G' (hp.le hg) hsm
 obtain⟨A,c,B,d,rfl,hv1,hv2,hI⟩:=hp;refine F20.fnS (by simp) (d7 ?_);unfold c20;have hself:∀ j u,(eH p A c B d)[j]?=some u→(eH p A c B d)[0+j]?=some u:=fun j u h=>by rw[Nat.zero_add];exact h
 unfold eH at hchk hself ⊢;intros;refine gR 0 0 c20r0.eq_1 ?_;intro b1 hb1;refine sI ?_;intros;refine eI (eO [] _) ?_;rintro h' ⟨G1,rfl,hg1,f1⟩;have f1:∀ j u,(eH p A c B d)[j]?=some u→fw G1 ⟨b1,j,none⟩=some u:=fun j u hu=>by have:=f1 j u hu;rwa [gV]at this
 have hchk:=hchk G1 hg1;intros;try refine dU ?_
 intros;try refine dU ?_
 intros;refine gR 6 8 c20r1.eq_1 ?_;refine⟨_,⟨_,_,rfl,rfl,rfl,fun j u hu=>.g (by rw[gV];exact f1 j u hu)⟩,?_⟩;refine sI ?_;refine fK (hchk _ _) ?_;intros;refine gC ?_;refine gb (fun k1=>?_) (fun k1=>?_)
 ·have k1:=Kb k1;intros;refine gR 0 0 c20r2.eq_1 ?_;intros;refine rW ?_;rw[kK,if_pos k1]
 have k1:fI p=0:=by simpa using k1
 have hok:=nH k1;intros;refine gN ?_;intros;try refine dU ?_
 intros;refine gR 9 12 c20r3.eq_1 ?_;refine⟨_,⟨_,_,rfl,rfl,rfl,fun j u hu=>.g (by rw[gV];exact f1 j u hu)⟩,?_⟩;refine sI ?_;intro x hx;refine sI ?_;intros;refine eI (eO [] _) ?_;rintro h' ⟨G2,rfl,hg2,f2⟩;have hg02:=hg1.trans hg2;have hpt:PtG G2 p x A c B d:=⟨fun j u hu=>by have:=f2 j u hu;rwa [gV]at this,hv1.le (E':=IE) hg02 Kd,SlR.le hg02 hv2⟩
 have f1:∀ j u,(eH p A c B d)[j]?=some u→fw G2 ⟨b1,j,none⟩=some u:=fun j u hu=>em hg2 (f1 j u hu)
 have hd:decide (p.leader≥0)=decide (0≤p.leader):=rfl;intros;try refine dU ?_
 intros;refine gR 12 14 c20r4.eq_1 ?_;refine⟨_,⟨_,rfl,.g (f1 1 _ rfl)⟩,?_⟩;refine sI ?_;intros;refine gC ?_;refine gb (fun k2=>?_) (fun k2=>?_)
 ·have k2:0≤p.leader:=Kb k2;obtain⟨k,r,hk,hr,-⟩:=nf hok (by omega);obtain⟨a,A1,c1,B1,d1,rfl,-,-,hf⟩:=qE hpt.2.2 hr;have hat:=zh p x A c (some a) d p.leader G2 hpt hI.2.1 (g9 hok);rw[hk]at hat;have hat:FnS Tryz.prog 51 #[.pointer (some ⟨x,0,none⟩),.int .i64 p.leader] G2 (.pointer (some (a.add (k * 7)))):=hat;intros;try refine dU ?_
  intros;refine gR 15 22 c20r5.eq_1 ?_;refine⟨_,⟨_,rfl,.g (f1 1 _ rfl)⟩,?_⟩;refine sI ?_;refine fK (hat _ _) ?_;refine⟨_,hf _ _ 6 _ rfl,?_⟩;refine sI ?_;intros;refine rW ?_;rw[kK,if_neg (fun h=>h k1),if_pos k2,hk];dsimp only;rw[hr];rfl
 have k2:¬ 0≤p.leader:=Kc k2;have hhp:kK p=p.isr.foldl (sb p.reps) 0:=by rw[kK,if_neg (fun h=>h k1),if_neg k2];rfl
 rw[hhp];intros;refine gN ?_;intros;try refine dU ?_
 intros;refine gR 0 0 c20r6.eq_1 ?_;intro b4 hb4;refine ei [] _ rfl (by simp) ⟨rfl,rfl⟩ ?_;refine sI ?_;intros;try refine dU ?_
 intros;try refine dU ?_
 intros;refine gR 22 23 c20r7.eq_1 ?_;refine(pY p x G2 _ _).mono ?_;rintro rr h' ⟨G3,rfl,hg3,b5,rfl,hb5⟩;have hpt3:=hpt.le hg3;have hit:=mn p x b5 A c B d G3 hpt3 (g9 hok) hb5;refine sI ?_;intros;refine dT ?_
 refine r9 (α:=Int) (fun t G' L'=>L'=[.blk b4 [.int .i64 ((p.isr.take t).foldl (sb p.reps) 0)]]) (fun _ _ _ _=>False) (eE) F111.enters (ec dS) (fun _ _ _ _ _ h=>h) hit (fun G x args h=>by cases h;rfl) rfl ?_ ?_ ?_
 ·rintro yl t n args G' L' hx hgl rfl rfl _;obtain⟨i,y,hi,hiy,hyn⟩:=ml (hok.2.1.2 n (mem_of_getElem? hx));have hnext:(p.isr.take (t+1)).foldl (sb p.reps) 0=max ((p.isr.take t).foldl (sb p.reps) 0) y.high:=by rw[tf _ _ hx,Dl hi hiy]
  obtain⟨a,A1,c1,B1,d1,hBa,-,-,hf⟩:=qE (hpt3.le hgl).2.2 hiy;have hptr:uI B (some i)=some (a.add (i * 7)):=by rw[hBa];rfl
  rw[hi,hptr,hnext];generalize (p.isr.take t).foldl (sb p.reps) 0=m0 at *;refine sI ?_;intros;refine gR 0 0 c20r8.eq_1 ?_;intro bb;refine gv (sq ?_);intros;try refine dU ?_
  intros;refine dT ?_;intros;refine dT ?_;refine Ei (by decide) ?_;refine sJ c20r9.eq_1 ?_;refine⟨_,dZ (.head _) rfl,?_⟩;refine sI ?_;refine⟨_,hf _ _ 6 _ rfl,?_⟩;refine sJ c20r10.eq_1 ?_;refine ei [] _ rfl (by simp) ⟨rfl,rfl⟩ ?_;refine sI ?_;intros;refine gN ?_;refine gv (qO _ J9 (ec dS) rfl)
 ·rintro G' L' dd hgl rfl _;rw[take_length];intros;refine gN ?_;intros;refine gR 31 32 c20r11.eq_1 ?_;refine⟨_,dZ (.head _) rfl,?_⟩;refine sI ?_;intros;refine rV ?_;simp only[push_cast,Nat.reduceBEq]
 ·rintro ex i G' L' d _ _ h;exact h.elim
theorem F168:Fun Tryz.prog 168 32 v168 c168 o168:=Fun.mkA Tryz.func168 Tryz.ntmps168
theorem F135:Fun Tryz.prog 135 62 v135 c135 o135:=Fun.mkA Tryz.func135 Tryz.ntmps135
theorem uS(a b:J4)(v u:Value)(G:JT)(ha:SlV G (BE G) 10 v a)(hb:SlV G (BE G) 10 u b):FnS Tryz.prog 168 #[v,u,.func (.func 169) #[] #[]] G (.bool (decide (a=b))):=by
 obtain⟨A,c,rfl,hc,hmx,hA⟩:=ha;obtain⟨B,d,rfl,hd,hmy,hB⟩:=hb;refine F168.fnS (by simp) (d7 ?_);unfold c168;intros;refine gR 0 0 c168r0.eq_1 ?_;intros;try refine dU ?_
 intros;try refine dU ?_
 intros;refine gR 10 14 c168r1.eq_1 ?_;intros;refine gC ?_;refine gb (fun k1=>?_) (fun k1=>?_)
 ·have k1:=Kb k1;intros;refine gR 0 0 c168r2.eq_1 ?_;intros;refine rW ?_;rw[decide_eq_false fun h=>k1 (by rw[h])]
 have k1:a.length=b.length:=by have:=Kc k1;omega
 intros;refine gN ?_;intros;try refine dU ?_
 intros;try refine dU ?_
 intros;refine gR 0 0 c168r3.eq_1 ?_;intros;refine dT ?_;refine ej (fun e h=>∃ k:Nat,(k≤a.length∧a.take k=b.take k)∧e 17=.int .i64 k∧e 16=.int .i64 a.length∧e 15=.slice A a.length c∧e 1=.slice B b.length d∧e 2=.func (.func 169) #[] #[]∧h=⟨G,[],[]⟩) (fun e h=>a.length - iv (e 17)) ?_ ?_
 ·exact⟨0,⟨Nat.zero_le _,rfl⟩,eE,eE,eE,eE,eE,rfl⟩
 rintro e h ⟨k,⟨hk,heq⟩,e17,e16,e15,e1,e2,rfl⟩;refine dX [1,2,15,16,17] ?_;refine sJ5 @e1 @e2 @e15 @e16 @e17 ?_;intros;refine gR 0 0 c168r4.eq_1 ?_;intros;refine gC ?_;refine gb (fun ht=>?_) (fun ht=>?_)
 ·have ht:k < a.length:=by have:=Kb ht;omega
  have hw:=eY k c (by omega) hmx;obtain⟨x,hx⟩:∃ s,a[k]?=some s:=⟨a[k],getElem?_eq_getElem (by omega)⟩;obtain⟨y,hy⟩:∃ s,b[k]?=some s:=⟨b[k],getElem?_eq_getElem (by omega)⟩;intros;refine gN ?_;intros;try refine dU ?_
  intros;refine gR 19 22 c168r5.eq_1 ?_;refine hA.x_ld hx rfl rfl ?_;rintro a1 ha1 cs hbx;have hbx0:=hbx;obtain⟨B1,d1,rfl,-⟩:=hbx;unfold fo at hbx0 ⊢;refine sI ?_;intros;try refine dU ?_
  intros;refine gR 22 26 c168r6.eq_1 ?_;refine hB.x_ld hy (by omega) rfl ?_;rintro a2 ha2 cs hby;have hby0:=hby;obtain⟨B2,d2,rfl,-⟩:=hby;unfold fo at hby0 ⊢;refine sI ?_;intros;try refine dU ?_
  intros;refine gR 26 30 c168r7.eq_1 ?_;refine .inl ⟨169,#[],rfl,?_⟩;refine fK (CK x y _ _ G hbx0 hby0 _ _) ?_;intros;refine gC ?_;refine gb (fun k2=>?_) (fun k2=>?_)
  ·have k2:¬ x=y:=by simpa using k2
   intros;refine gR 0 0 c168r8.eq_1 ?_;intros;refine rW ?_;rw[decide_eq_false fun h=>k2 (by rw[h,hy]at hx;cases hx;rfl)]
  ·have k2:x=y:=by simpa using k2
   subst k2;intros;refine gN ?_;refine dW (dY Ka) ?_;intros;refine gR2 31 32 c168r9.eq_1 @hw ?_;intros;refine dT ?_;refine eC ⟨⟨k+1,⟨by omega,by rw[eG hx,eG hy,heq]⟩,eE,eE,eE,eE,eE,rfl⟩,?_⟩;refine sI ?_;omega
 ·have ht:k=a.length:=by have:=Kc ht;omega
  subst ht;rw[take_length,k1,take_length]at heq;refine eg ?_;refine sI ?_;intros;refine gR 0 0 c168r10.eq_1 ?_;intros;refine rW ?_;rw[decide_eq_true heq]
theorem vp{l:Lg}{to:Int}(h:smL l.segs)(hm:l.segs.length≤1000):smL (rI l to).1.segs∧(rI l to).1.segs.length≤1000:=by
 have h0:smL gQ.segs∧gQ.segs.length≤1000:=⟨fun s hs=>absurd hs (by simp[gQ]),by simp[gQ]⟩;unfold rI;split
 ·split
  ·show smL (t8 l.segs to)∧(t8 l.segs to).length≤1000;unfold t8;split
   ·exact⟨fun s hs=>by simp at hs;subst hs;simp,by simp⟩
   ·refine⟨fun s hs=>?_,by have:=tu l.segs to;omega⟩;obtain⟨t,ht,rfl⟩:=List.mem_map.1 hs;have:=h t (List.mem_filter.1 ht).1;simp only[DF,List.length_take];omega
  ·exact h0
 ·exact h0
def LgB(q:Lg × Bool)(G:JT)(r:Value):Prop:=∃ cs,r=.tuple #[.agg cs.toArray,.bool q.2]∧LE G q.1 cs
theorem rB(l lead:Lg)(to:Int)(cs ds:JU)(G:JT)(hl:LE G l cs)(hd:LE G lead ds)(hb:smL l.segs)(hm:l.segs.length≤1000)(hb2:smL lead.segs)(hto:I64 to):
  FnD Tryz.prog 135 #[.agg cs.toArray,.agg ds.toArray,.int .i64 to] G (LgB (hH l lead to)):=by
 have htru:=rv l to cs G hl hb hm hto;have hsm:=vp (to:=to) hb hm;have hd0:=hd;obtain⟨A,c,rfl,-⟩:=hl;obtain⟨B,d,rfl,-⟩:=hd;have hcaught:hH l lead to=if (rI l to).2≠0∨(mK lead).length < (mK (rI l to).1).length∨mK (rI l to).1≠(mK lead).take (mK (rI l to).1).length then((rI l to).1,false)else lV (rI l to).1 ((mK lead).drop (mK (rI l to).1).length):=rfl
 refine F135.fnD (by simp) (d7 ?_);unfold c135;unfold eM at htru hd0 ⊢;intros;refine gR 0 0 c135r0.eq_1 ?_;intros;try refine dU ?_
 intros;refine gR 13 19 c135r1.eq_1 ?_;refine(htru _ _).mono ?_;rintro r h' ⟨G1,rfl,hg1,cs1,rfl,hle⟩;generalize rI l to=tr at *;obtain⟨l1,e1⟩:=tr;dsimp only at hle hcaught hsm;have hle0:=hle;obtain⟨A1,c1,rfl,-⟩:=hle;have hall1:=Be l1 _ G1 hle0 hsm.1;unfold eM at hall1 hle0 ⊢;refine sI ?_;intros;try refine dU ?_
 intros;refine dT ?_;refine ly _ J9 (by decide) ?_;refine sJ c135r2.eq_1 ?_;refine(hall1 _ _).mono ?_;rintro r h' ⟨G2,rfl,hg2,hv1⟩;refine⟨iZ hg2,?_⟩;refine sI ?_;refine(Be lead _ G2 (LE.le (hg1.trans hg2) hd0) hb2 _ _).mono ?_;rintro r2 h' ⟨G3,rfl,hg3,hv2⟩;refine⟨iZ (hg2.trans hg3),?_⟩;refine sI ?_;have hv1:SlV G3 (BE G3) 10 r (mK l1):=hv1.le hg3 fun _ _ h=>BE.le hg3 h
 generalize mK l1=mine at *;generalize mK lead=all at *;obtain⟨A4,c4,rfl,q1,q2,q3⟩:=hv1;obtain⟨A5,c5,rfl,q4,q5,q6⟩:=hv2;have hv1:SlV G3 (BE G3) 10 (.slice A4 mine.length c4) mine:=⟨A4,c4,rfl,q1,q2,q3⟩;have hv2:SlV G3 (BE G3) 10 (.slice A5 all.length c5) all:=⟨A5,c5,rfl,q4,q5,q6⟩
 have hno:(e1≠0∨all.length < mine.length∨mine≠all.take mine.length)→∀ (fr:J0) (e:Env),go none Tryz.prog 62 v135.1 v135.2 (fB o135 fun v h=>LgB (hH l lead to) h.G v) (Td.s ((SC.reg false c135r4).seq .ret) :: fr) e ⟨G3,[.reg 6 [.int .i64 0,.int .i64 0,.slice none 0 0],.reg 4 [.int .i64 lead.limit,.int .i64 lead.start,.slice B lead.segs.length d],.reg 3 [.int .i64 l1.limit,.int .i64 l1.start,.slice A1 l1.segs.length c1]],[]⟩:=fun hn fr e=>by
  intros;refine gR 41 42 c135r4.eq_1 ?_;intros;refine ea (je rfl ?_);rw[hcaught,if_pos hn];exact⟨_,rfl,LE.le (hg2.trans hg3) hle0⟩
 intros;try refine dU ?_
 intros;try refine dU ?_
 intros;refine gR 23 40 c135r3.eq_1 ?_;refine gd (fun k1=>?_) (fun k1=>?_)
 ·have k1:=Kb k1;refine sI ?_;intros;refine gC ?_;exact hno (.inl k1) _ _
 have k1:e1=0:=by simpa using k1
 refine sI ?_;refine gd (fun k2=>?_) (fun k2=>?_)
 ·have k2:=Kb k2;refine sI ?_;intros;refine gC ?_;exact hno (.inr (.inl (by omega))) _ _
 have k2:mine.length≤all.length:=by have:=Kc k2;omega
 have htl:(all.take mine.length).length=mine.length:=by rw[List.length_take];omega
 have hpre:=SlV.pre mine.length hv2 k2;have heq:=uS mine (all.take mine.length) _ _ G3 hv1 hpre;refine sI ?_;refine⟨by omega,?_⟩;refine sI ?_;refine fK (heq _ _) ?_;intros;refine gC ?_;refine gb (fun k3=>?_) (fun k3=>?_)
 ·have k3:¬ mine=all.take mine.length:=by simpa using k3
  exact hno (.inr (.inr k3)) _ _
 have k3:mine=all.take mine.length:=by simpa using k3
 have hc2:hH l lead to=lV l1 (all.drop mine.length):=by
  rw[hcaught,if_neg];rintro(h | h | h)
  ·exact h k1
  ·omega
  ·exact h k3
 rw[hc2];clear hno hcaught heq hc2;intros;refine gN ?_;intros;try refine dU ?_
 intros;refine gR 42 45 c135r5.eq_1 ?_;refine uz mine.length all.length c5 hv2 rfl rfl rfl (by omega) fun B5 hB5=>?_
 rw[take_length]at hB5 ⊢;generalize all.drop mine.length=rest at *;obtain⟨A6,c6,he6,q7,q8,hA6⟩:=hB5;cases he6;have hgt:=hg2.trans hg3;have hle1:=LE.le hgt hle0;refine sI ?_;intros;refine dT ?_
 refine ej (fun e h=>∃ (k:Nat) (cur:Lg) (G':JT) (A':JY) (c':Nat),(k≤rest.length∧Gle G3 G'∧LE G' cur (eM cur A' c')∧smL cur.segs∧cur.segs.length≤1000∧lV l1 rest=lV cur (rest.drop k))∧e 47=.int .i64 k∧e 46=.int .i64 rest.length∧e 45=.slice B5 rest.length (c5 - mine.length)∧h=⟨G',[.reg 6 [.int .i64 0,.int .i64 0,.slice none 0 0],.reg 4 [.int .i64 lead.limit,.int .i64 lead.start,.slice B lead.segs.length d],.reg 3 (eM cur A' c')],[]⟩) (fun e h=>rest.length - iv (e 47)) ?_ ?_
 ·exact⟨0,l1,G3,A1,c1,⟨Nat.zero_le _,.refl _,hle1,hsm.1,hsm.2,rfl⟩,eE,eE,eE,rfl⟩
 rintro e h ⟨k,cur,G',A',c',⟨hk,hg',hlc,hs1,hs2,hap⟩,e47,e46,e45,rfl⟩;refine dX [45,46,47] ?_;refine sJ3 @e45 @e46 @e47 ?_;unfold eM at hlc ⊢;intros;refine gR 0 0 c135r6.eq_1 ?_;intros;refine gC ?_;refine gb (fun ht=>?_) (fun ht=>?_)
 ·have ht:k < rest.length:=by have:=Kb ht;omega
  have hw:=eY k _ (by omega) q8;obtain⟨x,hx⟩:∃ s,rest[k]?=some s:=⟨rest[k],getElem?_eq_getElem (by omega)⟩;have hdr:rest.drop k=x :: rest.drop (k+1):=by
   rw[List.drop_eq_getElem_cons ht];congr 1;exact(List.getElem?_eq_some_iff.1 hx).2
  rw[hdr,lV]at hap;have hA':=hA6.le (E':=BE G') hg' fun _ _ h=>BE.le hg' h
  intros;refine gN ?_;intros;try refine dU ?_
  intros;refine gR 49 51 c135r7.eq_1 ?_;refine hA'.x_ld hx rfl rfl ?_;rintro a1 ha1 cs hbx;have hbx0:=hbx;obtain⟨B1,d1,rfl,-⟩:=hbx;unfold fo at hbx0 ⊢;have hca:=oq cur x _ _ G' hlc hs1 hs2 hbx0;have hapo:=lY (l:=cur) (b:=x);generalize jV cur x=ax at *;obtain⟨cur2,e2⟩:=ax;dsimp only at hap hapo;refine sI ?_;intros;try refine dU ?_
  intros;refine gR 51 57 c135r8.eq_1 ?_;refine(hca _ _).mono ?_;rintro v h' ⟨G4,rfl,hg4,cs7,rfl,hle7⟩;dsimp only at hle7;have hle70:=hle7;obtain⟨A7,c7,rfl,-⟩:=hle7;unfold eM at hle70 ⊢;refine sI ?_;intros;try refine dU ?_
  intros;refine gR 57 58 c135r9.eq_1 ?_;intros;refine gC ?_;refine gb (fun k4=>?_) (fun k4=>?_)
  ·have k4:=Kb k4;rw[if_neg k4]at hap;intros;refine gR 59 60 c135r10.eq_1 ?_;intros;refine ea (je rfl ?_);rw[hap];exact⟨_,rfl,hle70⟩
  ·have k4:e2=0:=by simpa using k4
   rw[if_pos k4]at hap;have hck:=(hapo k4).2.2.1;intros;refine gN ?_;refine dW (dY (L':=[.reg 6 [.int .i64 0,.int .i64 0,.slice none 0 0],.reg 4 [.int .i64 lead.limit,.int .i64 lead.start,.slice B lead.segs.length d],.reg 3 [.int .i64 cur2.limit,.int .i64 cur2.start,.slice A7 cur2.segs.length c7]]) (.cons _ J9)) ?_;intros;refine gR2 60 61 c135r11.eq_1 @hw ?_;intros;refine dT ?_
   refine eC ⟨⟨k+1,cur2,G4,A7,c7,⟨by omega,hg'.trans hg4,hle70,ru hck,by have:=(iS hck).2.2.2;omega,hap⟩,eE,eE,eE,rfl⟩,?_⟩;refine sI ?_;omega
 ·have ht:k=rest.length:=by have:=Kc ht;omega
  subst ht;rw[List.drop_length,lV]at hap;refine eg ?_;refine sI ?_;intros;refine gR 61 62 c135r12.eq_1 ?_;intros;refine rW ?_;rw[hap];exact⟨_,rfl,hlc⟩
theorem F82:Fun Tryz.prog 82 67 v82 c82 o82:=Fun.mkA Tryz.func82 Tryz.ntmps82
theorem AC{l:List Ep}(h:iu l=0){i:Nat}{en:Int}(he:0≤en∧en≤1099511627777):0≤BH l i en∧BH l i en≤1099511627777:=by
 unfold BH;cases hy:l[i+1]? with
 | none=>simpa using he
 | some y =>
  have:=AA h hy;simp[okE]at this ⊢;omega
theorem Bu{a b:List Ep}{ae be m:Int}(h:mG a b ae be m)(h1:0≤ae∧ae≤1099511627777)(h2:0≤be∧be≤1099511627777):0≤m∧m≤1099511627777:=by
 rcases h with⟨-,rfl⟩ | ⟨ha,hb,⟨-,rfl⟩ | ⟨i,x,k,y,-,-,-,-,rfl⟩⟩
 ·omega
 ·omega
 ·have:=AC ha (i:=i) h1;have:=AC hb (i:=k) h2;omega
theorem C2(r lead:Rp):0≤lz r lead∧lz r lead≤1099511627777:=by
 unfold lz mB;split
 ·rename_i h;exact Bu (Classical.choose_spec h) (m6 _) (m6 _)
 ·omega
theorem uX(l:List Rp)(k:Nat)(r lead:Rp)(ga d:Nat)(zs ds:JU)(G:JT)(hz:Cells (RE G) 7 l zs)(hr:l[k]?=some r)(hd:RE G lead ds)(hsr:smR r)(hsl:smR lead):
  FnO Tryz.prog 82 #[.pointer (some ⟨ga,k * 7,none⟩),.agg ds.toArray] G [.row (.slice (some ⟨ga,0,none⟩) l.length d) 50 7 l.length zs] (fun G' L' v=>v=.tuple #[]∧∃ zs',L'=[.row (.slice (some ⟨ga,0,none⟩) l.length d) 50 7 l.length zs']∧Cells (RE G') 7 (l.set k (eN r lead)) zs'):=by
 have hzl:=hz.len;have hkl:=(List.getElem?_eq_some_iff.1 hr).1;obtain⟨cs,hre,hcl,hld⟩:=hz.get hr;have hre0:=hre;have hd0:=hd;have hendr:=ji r cs G hre hsr.1 (by have:=hsr.2.1;omega);have hendl:=ji lead ds G hd hsl.1 (by have:=hsl.2.1;omega);obtain⟨A1,c1,B1,d1,rfl,q1,q2,q3,q4⟩:=hre;obtain⟨A2,c2,B2,d2,rfl,p1,p2,p3,p4⟩:=hd
 have hmeet:=AK r.eps lead.eps (fD r.log) (fD lead.log) _ _ G q2 p2 (by have:=hsr.2.2;omega) (by have:=hsl.2.2;omega);have hmp:lz r lead=mB r.eps lead.eps (fD r.log) (fD lead.log):=rfl;refine F82.fnO (by simp) (dV dS) (d7 ?_);unfold c82;unfold fL at hendr hendl hd0 ⊢;intros;refine gR 0 0 c82r0.eq_1 ?_;intros;try refine dU ?_
 intros;refine dT ?_;refine ly _ J9 (by decide) ?_;refine sJ c82r1.eq_1 ?_;refine⟨_,fj (.tail _ (.head _)) (hld 5 _ rfl),?_⟩;refine sI ?_;refine⟨_,ic (.tail _ (.head _)) hcl hld,?_⟩;unfold fL;refine sI ?_;refine fK (hendr _ _) ?_;refine fK (hendl _ _) ?_;refine fK (hmeet _ _) ?_;rw[← hmp];have hei:=m6 r.log;have hto:I64 (min (lz r lead) (fD r.log)):=by
  have:=C2 r lead;unfold I64;omega
 have hfo:(eN r lead).log=if r.log.start=lead.log.start∧r.log.start≤lz r lead∧(hH r.log lead.log (min (lz r lead) (fD r.log))).2=true then(hH r.log lead.log (min (lz r lead) (fD r.log))).1 else lead.log:=rfl
 have hle1:LE G r.log (eM r.log A1 c1):=⟨A1,c1,rfl,q1,q3⟩;have hle2:LE G lead.log (eM lead.log A2 c2):=⟨A2,c2,rfl,p1,p3⟩;have hcau:=rB r.log lead.log _ _ _ G hle1 hle2 hsr.1 hsr.2.1 hsl.1 hto;have hldl:=wd hld;unfold eM at hcau hldl;generalize hcm:lz r lead=m at *;generalize hH r.log lead.log (min m (fD r.log))=cau at *;obtain⟨cl,cb⟩:=cau;dsimp only at hfo;intros;try refine dU ?_
 intros;refine gR 22 23 c82r2.eq_1 ?_;intros;try refine dU ?_
 refine eK (fun e h=>∃ (G':JT) (lg:Lg) (b:Bool) (A5:JY) (c5:Nat),(Gle G G'∧LE G' lg (eM lg A5 c5)∧(eN r lead).log=if b=true then lg else lead.log)∧e 0=.pointer (some ⟨ga,k * 7,none⟩)∧e 6=.bool b∧h=⟨G',[.reg 5 (eM lg A5 c5),.reg 3 [.int .i64 lead.id,.bool lead.up,.int .i64 lead.log.limit,.int .i64 lead.log.start,.slice A2 lead.log.segs.length c2,.slice B2 lead.eps.length d2,.int .i64 lead.high],.row (.slice (some ⟨ga,0,none⟩) l.length d) 50 7 l.length zs],[]⟩) ?_ ?_
 ·intros;try refine dU ?_
  intros;refine gR 23 28 c82r3.eq_1 ?_;refine⟨_,fj (.tail _ (.tail _ (.head _))) (hld 3 _ rfl),?_⟩;refine sI ?_;have hfin:¬ (r.log.start=lead.log.start∧r.log.start≤m)→(eN r lead).log=lead.log:=fun h=>by rw[hfo,if_neg fun h2=>h ⟨h2.1,h2.2.1⟩]
  intros;try refine dU ?_
  intros;refine gR 28 37 c82r4.eq_1 ?_;refine gdD (fun k1=>?_) (fun k1=>?_)
  ·refine sI ?_;intros;refine gC ?_;refine gb (fun k2=>?_) (fun k2=>?_)
   ·have k2:r.log.start≤m:=Kb k2;intros;refine dT ?_;refine pQ _ J9 (by decide) ?_;refine sJ c82r5.eq_1 ?_;refine⟨_,ic (.tail _ (.tail _ (.head _))) rfl hldl,?_⟩;refine sI ?_;refine⟨_,ic (.tail _ (.tail _ (.head _))) hcl hld,?_⟩;unfold fL;refine sI ?_;refine fK (hendr _ _) ?_;refine(hcau _ _).mono ?_;rintro v h' ⟨G1,rfl,hg1,cs7,rfl,hle7⟩;dsimp only at hle7;have hle70:=hle7
    obtain⟨A7,c7,rfl,-⟩:=hle7;unfold eM;refine sI ?_;refine gy ?_;refine sI ?_;refine gy ?_;refine sI ?_;refine eC ⟨G1,cl,cb,A7,c7,⟨hg1,hle70,?_⟩,eE,eE,rfl⟩;rw[hfo];cases cb
    ·rw[if_neg (by simp),if_neg (by simp)]
    ·rw[if_pos ⟨k1,k2,rfl⟩,if_pos rfl]
   ·have k2:¬ r.log.start≤m:=Kc k2;intros;refine gN ?_;exact eC ⟨G,lead.log,false,A2,c2,⟨.refl _,hle2,by rw[hfin fun h=>k2 h.2];rfl⟩,eE,eE,rfl⟩
  ·refine sI ?_;intros;refine gC ?_;intros;refine gN ?_;exact eC ⟨G,lead.log,false,A2,c2,⟨.refl _,hle2,by rw[hfin fun h=>k1 h.1];rfl⟩,eE,eE,rfl⟩
 rintro e h ⟨G1,lg,b,A5,c5,⟨hg1,hlg,hlog⟩,e0,e6,rfl⟩;refine dX [0,6] ?_;refine sJ2 @e0 @e6 ?_;intros;try refine dU ?_
 refine eK (fun e h=>∃ (A8:JY) (c8:Nat),LE G1 (eN r lead).log (eM (eN r lead).log A8 c8)∧e 0=.pointer (some ⟨ga,k * 7,none⟩)∧h=⟨G1,[.reg 5 (eM (eN r lead).log A8 c8),.reg 3 [.int .i64 lead.id,.bool lead.up,.int .i64 lead.log.limit,.int .i64 lead.log.start,.slice A2 lead.log.segs.length c2,.slice B2 lead.eps.length d2,.int .i64 lead.high],.row (.slice (some ⟨ga,0,none⟩) l.length d) 50 7 l.length zs],[]⟩) ?_ ?_
 ·intros;try refine dU ?_
  intros;refine gR 54 55 c82r6.eq_1 ?_;intros;refine gC ?_;refine gb (fun k1=>?_) (fun k1=>?_)
  ·have k1:b=false:=by simpa using k1
   rw[if_neg (by rw[k1];simp)]at hlog;rw[hlog];unfold eM;intros;refine gR 57 58 c82r7.eq_1 ?_;intros;refine gN ?_;exact eC ⟨A2,c2,LE.le hg1 hle2,eE,rfl⟩
  ·have k1:b=true:=by simpa using k1
   rw[if_pos k1]at hlog;rw[hlog];intros;refine gN ?_;exact eC ⟨A5,c5,hlg,eE,rfl⟩
 rintro e h ⟨A8,c8,hle8,e0,rfl⟩;refine dX [0] ?_;refine sJ @e0 ?_;have hz1:Cells (RE G1) 7 (l.set k { r with log:=(eN r lead).log }) (eu zs (k * 7+2) (eM (eN r lead).log A8 c8)) :=
  Cells.setF (E:=RE G1) (x':={ r with log:=(eN r lead).log }) (eU hz fun _ _ h=>RE.le hg1 h) hr (by simp[eM]) fun cs h hl=>by
   obtain⟨A6,c6,B6,d6,rfl,q1,q2,q3,q4⟩:=h;obtain⟨A9,c9,he9,h1,h2⟩:=hle8;unfold eM at he9;cases he9;exact⟨A8,c8,B6,d6,rfl,h1,q2,h2,q4⟩
 have hz2:Cells (RE G1) 7 (l.set k (eN r lead)) (eu (eu zs (k * 7+2) (eM (eN r lead).log A8 c8)) (k * 7+5) [.slice B2 lead.eps.length d2]):=by
  have:=Cells.setF (E:=RE G1) (o:=5) (us:=[.slice B2 lead.eps.length d2]) (x':=eN r lead) hz1 (jJ hr) (by simp) fun cs h hl=>by
   obtain⟨A6,c6,B6,d6,rfl,q1,q2,q3,q4⟩:=h;exact⟨A6,c6,B2,d2,rfl,q1,p2.le hg1 Kd,q3,q4⟩
  rwa [List.set_set]at this
 unfold eM at hz2 ⊢;intros;intros;refine dT ?_;refine pQ _ (.cons_cons _ (.cons_cons _ Ka)) (by decide) ?_;refine sJ c82r8.eq_1 ?_;refine fZ [_,_] [] rfl (by simp;omega) ⟨rfl,rfl⟩ ?_;refine sI ?_;refine⟨⟨Kd,.cons_cons _ (.cons_cons _ Ka),rfl⟩,?_⟩;refine fZ [_,_] [] rfl (by simp[eu];omega) ⟨rfl,rfl⟩ ?_;refine sI ?_
 exact gv ⟨[],rfl,⟨G1,[.row (.slice (some ⟨ga,0,none⟩) l.length d) 50 7 l.length _],[]⟩,dY (.cons _ (.cons _ J9)),dV dS,rfl,_,rfl,hz2⟩
theorem F170:Fun Tryz.prog 170 6 v170 c170 o170:=Fun.mkA Tryz.func170 Tryz.ntmps170
theorem F137:Fun Tryz.prog 137 6 v137 c137 o137:=Fun.mkA Tryz.func137 Tryz.ntmps137
theorem F136:Fun Tryz.prog 136 17 v136 c136 o136:=Fun.mkA Tryz.func136 Tryz.ntmps136
theorem F83:Fun Tryz.prog 83 54 v83 c83 o83:=Fun.mkA Tryz.func83 Tryz.ntmps83
theorem zq(n:Int)(G:JT):FnS Tryz.prog 170 #[.int .i64 n] G (.bool false):=by
 have hd:decide (n≠n)=false:=by simp
 refine F170.fnS (by simp) (d7 ?_);unfold c170;intros;refine gR 0 0 c170r0.eq_1 ?_;intros;refine gR2 3 6 c170r1.eq_1 @hd ?_;intros;refine rV ?_;simp only[push_cast,Nat.reduceBEq]
theorem vo(n:Int)(G:JT):FnS Tryz.prog 137 #[.int .i64 n] G (.bool false):=by
 have hd:decide (n≠n)=false:=by simp
 refine F137.fnS (by simp) (d7 ?_);unfold c137;intros;refine gR 0 0 c137r0.eq_1 ?_;intros;refine gR2 3 6 c137r1.eq_1 @hd ?_;intros;refine rV ?_;simp only[push_cast,Nat.reduceBEq]
theorem Dj(a b:Int)(G:JT):FnS Tryz.prog 136 #[.int .i64 a,.int .i64 b] G (.bool (decide (a < b))):=by
 refine F136.fnS (by simp) (d7 ?_);unfold c136;intros;refine gR 0 0 c136r0.eq_1 ?_;intros;refine gR 5 17 c136r1.eq_1 ?_;refine fK (zq _ _ _ _) ?_;intros;refine rV ?_;simp only[push_cast,Nat.reduceBEq]
theorem rC(l:J6)(n:Int)(v:Value)(G:JT)(hl:SlV G IE 1 v l)(hs:l.Pairwise (· < ·)):
  FnE Tryz.prog 83 #[v,.int .i64 n] G (fun r=>∃ j:Nat,r=.tuple #[.int .i64 j,.bool (decide (n∈l))]∧j≤l.length∧∀ t y,l[t]?=some y→(t < j→y < n)∧(j≤t→n≤y)):=by
 obtain⟨A,c,rfl,hc,hmx,hA⟩:=hl;have hmono:∀ (i k:Nat) (x y:Int),i < k→l[i]?=some x→l[k]?=some y→x < y:=fun i k x y hik hx hy=>by
  obtain⟨g1,e1⟩:=List.getElem?_eq_some_iff.1 hx;obtain⟨g2,e2⟩:=List.getElem?_eq_some_iff.1 hy;rw[List.pairwise_iff_getElem]at hs;rw[← e1,← e2];exact hs i k g1 g2 hik
 refine F83.fnE (by simp) (d7 ?_);unfold c83;intros;refine gR 0 0 c83r0.eq_1 ?_;intros;refine gR 10 12 c83r1.eq_1 ?_;intros;refine gR 12 13 c83r2.eq_1 ?_;intros;refine dT ?_
 refine ej (fun e h=>∃ i j:Nat,(i≤j∧j≤l.length)∧(∀ t y,l[t]?=some y→(t < i→y < n)∧(j≤t→n≤y))∧e 7=.int .i64 i∧e 8=.int .i64 j∧e 6=.int .i64 l.length∧e 0=.slice A l.length c∧e 1=.int .i64 n∧h=⟨G,[],[]⟩) (fun e h=>iv (e 8) - iv (e 7)) ?_ ?_
 ·exact⟨0,l.length,⟨by omega,by omega⟩,fun t y hy=>⟨fun h=>absurd h (by omega),fun h=>by have:=(List.getElem?_eq_some_iff.1 hy).1;omega⟩,eE,eE,eE,eE,eE,rfl⟩
 rintro e h ⟨i,j,⟨hij,hjn⟩,hat,e7,e8,e6,e0,e1,rfl⟩;refine dX [0,1,6,7,8] ?_;refine sJ5 @e0 @e1 @e6 @e7 @e8 ?_;intros;refine gR 13 15 c83r3.eq_1 ?_;intros;refine gC ?_;refine gb (fun ht=>?_) (fun ht=>?_)
 ·have hlt:i < j:=by simpa using ht
  unfold maxLen at hmx;obtain⟨m,hm1,hm2,hh,hv⟩:∃ m:Nat,i≤m∧m < j∧fl .shr (.int .u64 (IntKind.u64.wrap (IntKind.i64.wrap ((i:Int)+j)))) (.int .u64 1)=some (.int .u64 (m:Int))∧IntKind.i64.wrap (m:Int)=m :=
   ⟨(i+j) / 2,by omega,by omega,HV i j (by omega),cvh i j (by omega)⟩
  obtain⟨x,hx⟩:∃ x,l[m]?=some x:=⟨l[m],getElem?_eq_getElem (by omega)⟩;intros;refine gN ?_;intros;refine gr 16 22 ?_;refine sJ3 c83r4.eq_1 @hh @hv ?_;intros;refine gR 22 27 c83r5.eq_1 ?_;refine hA.x_l1 hx rfl rfl ?_;rintro a1 ha1 u1 ⟨hu,-⟩;cases hu;refine sI ?_;refine fK (Dj x n _ _ _) ?_;intros;refine gC ?_;refine gbD (fun h3=>?_) (fun h3=>?_)
  ·have hw:IntKind.i64.wrap ((m:Int)+1)=(m:Int)+1:=by rw[eh] <;> omega
   intros;refine gR2 28 30 c83r6.eq_1 @hw ?_;intros;refine dT ?_;refine eC ⟨⟨m+1,j,⟨by omega,by omega⟩,fun t y hy=>⟨fun h=>?_,(hat t y hy).2⟩,(eJ @hw),eE,eE,eE,eE,rfl⟩,?_⟩
   ·by_cases htm:t=m
    ·subst htm;rw[hx]at hy;cases hy;exact h3
    ·have:=hmono t m y x (by omega) hy hx;omega
   refine sJ @hw ?_;omega
  ·intros;refine gR 30 31 c83r7.eq_1 ?_;intros;refine dT ?_;refine eC ⟨⟨i,m,⟨by omega,by omega⟩,fun t y hy=>⟨(hat t y hy).1,fun h=>?_⟩,eE,eE,eE,eE,eE,rfl⟩,?_⟩
   ·by_cases htm:t=m
    ·subst htm;rw[hx]at hy;cases hy;omega
    ·have:=hmono m t x y (by omega) hx hy;omega
   refine sI ?_;omega
 ·have hij':i=j:=by simp at ht;omega
  subst hij';have hmem:n∈l↔l[i]?=some n:=by
   constructor
   ·intro h;obtain⟨t,ht⟩:=List.getElem?_of_mem h;have:=hat t n ht;have h1:i≤t:=by
     by_cases h:t < i
     ·have:=this.1 h;omega
     ·omega
    by_cases hti:t=i
    ·rw[← hti];exact ht
    ·have hl:=(List.getElem?_eq_some_iff.1 ht).1;obtain⟨y,hy⟩:∃ y,l[i]?=some y:=⟨l[i],getElem?_eq_getElem (by omega)⟩;have h2:=(hat i y hy).2 (Nat.le_refl _);have h3:=hmono i t y n (by omega) hy ht;omega
   ·exact fun h=>mem_of_getElem? h
  refine eg ?_;refine sI ?_;intros;refine gR 31 54 c83r8.eq_1 ?_;refine gd (fun ht=>?_) (fun ht=>?_)
  ·have hlt:i < l.length:=by simpa using ht
   obtain⟨x,hx⟩:∃ x,l[i]?=some x:=⟨l[i],getElem?_eq_getElem (by omega)⟩;have hdm:decide (n∈l)=decide (x=n):=decide_eq_decide.2 (by rw[hmem,hx];simp);refine sI ?_;refine hA.x_l1 hx rfl rfl ?_;rintro a1 ha1 u1 ⟨hu,-⟩;cases hu;refine sI ?_;refine gd (fun k1=>?_) (fun k1=>?_)
   ·have k1':=Kb k1;refine sI ?_;intros;refine rW ?_;exact⟨i,by rw[hdm,k1],hjn,hat⟩
   ·refine sI ?_;refine hA.x_l1 hx rfl rfl ?_;rintro a1 ha1 u1 ⟨hu,-⟩;cases hu;refine sI ?_;refine fK (vo _ _ _ _) ?_;intros;refine rW ?_;exact⟨i,by rw[hdm,k1],hjn,hat⟩
  ·have hlt:i=l.length:=by have:=Kc ht;omega
   refine sI ?_;intros;refine rW ?_;have hnm:decide (n∈l)=false:=decide_eq_false (by rw[hmem,List.getElem?_eq_none (by omega)];simp);exact⟨i,by rw[hnm],hjn,hat⟩
theorem F33:Fun Tryz.prog 33 12 v33 c33 o33:=Fun.mkA Tryz.func33 Tryz.ntmps33
theorem F81:Fun Tryz.prog 81 104 v81 c81 o81:=Fun.mkA Tryz.func81 Tryz.ntmps81
def Gk(P:Program)(f et:Nat):Prop :=
 ∀ (l:J6) (n:Int) (j:Nat) (A:JY) (c b:Nat) (ys:JU) (G:JT),l.Pairwise (· < ·)→n∉l→(j≤l.length∧∀ t y,l[t]?=some y→(t < j→y < n)∧(j≤t→n≤y))→l.length≤1000→I64 n→Cells IE 1 l ys →
  FnO P f #[.slice A l.length c,.int .i64 j,.slice (some ⟨b,0,none⟩) 1 1] G [.row (.slice (some ⟨b,0,none⟩) 1 1) et 1 1 [.int .i64 n],.row (.slice A l.length c) et 1 l.length ys] (fun G' L' r=>∃ A' c' ys',r=.slice A' (lD l n).length c'∧Cells IE 1 (lD l n) ys'∧L'=[.row r et 1 (lD l n).length ys'])
theorem qj:∀ {l:J6} {n:Int},l.Pairwise (· < ·)→n∈l→lD l n=l
 | [],_,_,h=>by cases h
 | m :: l,n,hs,h=>by
  rw[lD];rcases List.mem_cons.1 h with rfl | h
  ·rw[if_neg (by omega),if_pos rfl]
  ·have h1:=(List.pairwise_cons.1 hs).1 n h;rw[if_pos h1,qj (List.pairwise_cons.1 hs).2 h]
theorem sZ:∀ {l:J6} {n m:Int},m∈lD l n→m∈l∨m=n
 | [],n,m,h=>by simp[lD]at h;exact .inr h
 | x :: l,n,m,h=>by
  rw[lD]at h;split at h
  ·rcases List.mem_cons.1 h with rfl | h
   ·exact .inl (.head _)
   ·rcases sZ h with h | h
    ·exact .inl (.tail _ h)
    ·exact .inr h
  ·split at h
   ·exact .inl h
   ·rcases List.mem_cons.1 h with rfl | h
    ·exact .inr rfl
    ·exact .inl h
theorem lI{p:Pt}{j:Nat}{y:Rp}(h0:¬ p.leader < 0)(hj:atR p.reps p.leader=some j)(hy:p.reps[j]?=some y):eR p=ip p j { y with high:=max y.high (gh p.reps j y (fD y.log) p.isr) }:=by
 unfold eR;rw[if_neg h0,hj];dsimp only;rw[hy];rfl
theorem vu:∀ {l m:List Rp} (n:Int),gz l=gz m→atR l n=atR m n
 | [],[],_,_=>rfl
 | [],y :: m,_,h=>by cases h
 | x :: l,[],_,h=>by cases h
 | x :: l,y :: m,n,h=>by
  simp only[gz,List.map_cons,List.cons.injEq]at h;rw[atR,atR,h.1,vu n h.2]
theorem AJ(p:Pt)(x:Nat)(A:JY)(c:Nat)(B:JY)(d:Nat)(ys zs:JU):
  (PtL p x A c B d ys zs).Perm ([Kx.Item.row (.slice B p.reps.length d) 50 7 p.reps.length zs]++[Kx.Item.blk x (eH p A c B d),Kx.Item.row (.slice A p.isr.length c) 3 1 p.isr.length ys]):=List.Perm.swap _ _ _
theorem CG(l:J6)(n:Int)(A:JY)(c:Nat)(ys:JU)(h:H)(L:JW)(hL:h.L.Perm (.row (.slice A l.length c) 3 1 l.length ys :: L))(hy:Cells IE 1 l ys)(hs:l.Pairwise (· < ·)):
  eP Tryz.prog 83 #[.slice A l.length c,.int .i64 n] h fun r h'=>(∃ j:Nat,r=.tuple #[.int .i64 j,.bool (decide (n∈l))]∧j≤l.length∧∀ t y,l[t]?=some y→(t < j→y < n)∧(j≤t→n≤y))∧h'=h :=
 jd (L1:=[_]) (M:=fun G=>SlV G IE 1 (.slice A l.length c) l) (dV dS) F83.enters hL (jn (M1:=fun G=>SlV G IE 1 (.slice A l.length c) l) (fun L=>kl (by decide) hy) fun G' _ h=>mJ h) fun G' hg hp=>rC l n _ G' hp hs L h.D
theorem sD:∀ {bs:J4} {l:Lg},smL l.segs∧l.segs.length≤1000→smL (lV l bs).1.segs∧(lV l bs).1.segs.length≤1000
 | [],l,h=>h
 | b :: bs,l,h=>by
  rw[lV];split
  ·rename_i h0;have hc:=(lY h0).2.2.1;exact sD ⟨ru hc,by have:=(iS hc).2.2.2;omega⟩
  ·rename_i h0;rw[By h0];exact⟨fun s hs=>absurd hs (by simp[gQ]),by simp[gQ]⟩
theorem vV{r lead:Rp}(h1:smR r)(h2:smR lead):smR (eN r lead):=by
 have hc:∀ to,smL (hH r.log lead.log to).1.segs∧(hH r.log lead.log to).1.segs.length≤1000:=fun to=>by
  have ht:=vp (to:=to) h1.1 h1.2.1;unfold hH;dsimp only;split
  ·exact ht
  ·exact sD ht
 have h3:smL (eN r lead).log.segs∧(eN r lead).log.segs.length≤1000:=by
  unfold eN;dsimp only;split
  ·exact hc _
  ·exact⟨h2.1,h2.2.1⟩
 exact⟨h3.1,h3.2,h2.2.2⟩
theorem zo(p:Pt)(n:Int)(b3 k:Nat)(r:Rp)(G:JT)(hok:okP p)(hsm:smP p)(hI:rp p)(hn:I64 n)(h3:fw G ⟨b3,0,none⟩=some (.int .i64 n))(hk:atR p.reps n=some k)(hr:p.reps[k]?=some r)
  (hins:Gk Tryz.prog 84 3∨n∈p.isr∨∀ j lead,atR p.reps p.leader=some j→p.reps[j]?=some lead→fD (eN r lead).log < lead.high) :
  nT G 81 #[.pointer (some ⟨b3,0,none⟩)] p k (nw n p k r):=by
 intro G1 x A c ga d ys zs hg hy hz;have h3:=em hg h3;rw[show(#[.pointer (some ⟨x,0,none⟩),.pointer (some ⟨ga,k * 7,none⟩)]++#[.pointer (some ⟨b3,0,none⟩)]:Array Value)=#[.pointer (some ⟨x,0,none⟩),.pointer (some ⟨ga,k * 7,none⟩),.pointer (some ⟨b3,0,none⟩)]from rfl];have hsr:=hsm.1 r (mem_of_getElem? hr);have hkl:=(List.getElem?_eq_some_iff.1 hr).1;have hrn:r.id=n:=by
  obtain⟨r',h1,h2⟩:=iU hk;rw[hr]at h1;cases h1;exact h2
 obtain⟨cs,hre,hcl,hld⟩:=hz.get hr;obtain⟨A1,c1,B1,d1,rfl,-⟩:=hre;refine F81.fnO (by simp) eT (d7 ?_);unfold c81;have hno:p.leader < 0∨r.up=false→∀ (fr:J0) (e:Env) (h:H),go none Tryz.prog 104 v81.1 v81.2 (fB o81 fun v h=>Av (nw n p k r) x (· = []) h.G h.L v) (Td.s ((SC.reg false c81r2).seq .ret) :: fr) e h:=fun h fr e h=>by
  intros;refine gR 0 0 c81r2.eq_1 ?_;intros;refine ea (ee [] rfl Ka dS ?_);rw[nw,if_pos ‹_›];exact oJ x _ (by decide)
 intros;refine gR 0 0 c81r0.eq_1 ?_;intros;try refine dU ?_
 intros;try refine dU ?_
 intros;refine gR 10 22 c81r1.eq_1 ?_;refine⟨_,dZ (cs:=eH p A c (some ⟨ga,0,none⟩) d) (.head _) rfl,?_⟩;refine sI ?_;refine gdD (fun k1=>?_) (fun k1=>?_)
 ·refine sI ?_;intros;refine gC ?_;exact hno (.inl k1) _ _ _
 refine sI ?_;refine⟨_,fj (.tail _ (.head _)) (hld 1 _ rfl),?_⟩;refine sI ?_;intros;refine gC ?_;refine gb (fun k2=>?_) (fun k2=>?_)
 ·have k2:r.up=false:=by simpa using k2
  exact hno (.inr k2) _ _ _
 have k2:r.up=true:=by simpa using k2
 have k12:¬ (p.leader < 0∨r.up=false):=fun h=>by rcases h with h | h;exact k1 h;rw[k2]at h;cases h
 clear hno;intros;refine gN ?_;intros;try refine dU ?_
 intros;try refine dU ?_
 intros;refine dT ?_;refine pP 23 29 (by decide) ?_;refine sJ c81r3.eq_1 ?_;refine⟨_,⟨_,rfl,.g h3⟩,?_⟩;refine sI ?_;refine⟨_,dZ (cs:=eH p A c (some ⟨ga,0,none⟩) d) (.head _) rfl,?_⟩;refine sI ?_;intros;refine gC ?_;refine gbD (fun k3=>?_) (fun k3=>?_)
 ·intros;refine gR 0 0 c81r4.eq_1 ?_;intros;refine ea (ee _ rfl J9 eT ?_);rw[nw,if_neg k12,if_pos k3];exact vO hy hz hI
 obtain⟨j,lead,hj,hl,hli⟩:=nf hok k1;have hjl:=(List.getElem?_eq_some_iff.1 hl).1;have hjk:j≠k:=fun h=>by
  subst h;rw[hr]at hl;cases hl;exact k3 (by rw[← hrn,hli])
 have hpt:uI (some ⟨ga,0,none⟩) (some j)=some ⟨ga,j * 7,none⟩:=congrArg some (gV _ _);intros;refine gN ?_;intros;try refine dU ?_
 intros;refine gR 30 37 c81r5.eq_1 ?_;refine⟨_,dZ (cs:=eH p A c (some ⟨ga,0,none⟩) d) (.head _) rfl,?_⟩;refine sI ?_;refine(s9 p x A c (some ⟨ga,0,none⟩) d ys zs p.leader _ [] (by simp) hy hz hI.2.1 (g9 hok)).mono ?_;rintro _ _ ⟨rfl,rfl⟩;rw[hj,hpt];refine sI ?_;have hsl:=hsm.1 lead (mem_of_getElem? hl);obtain⟨cs,hle,hcl2,hld2⟩:=hz.get hl
 have hfo:=uX p.reps k r lead ga d zs cs G1 hz hr hle hsr hsl;obtain⟨A2,c2,B2,d2,rfl,-⟩:=hle;unfold fL at hfo;intros;try refine dU ?_
 intros;refine gR 37 42 c81r6.eq_1 ?_;refine⟨_,ic (.tail _ (.head _)) hcl2 hld2,?_⟩;unfold fL;refine sI ?_;refine eP.ghost (h':=⟨G1,[.row (.slice (some ⟨ga,0,none⟩) p.reps.length d) 50 7 p.reps.length zs]++[.blk x (eH p A c (some ⟨ga,0,none⟩) d),.row (.slice A p.isr.length c) 3 1 p.isr.length ys],[]⟩) (eL (AJ p x A c (some ⟨ga,0,none⟩) d ys zs)) ?_;refine(hfo _ _).mono ?_
 rintro v h' ⟨G2,L',rfl,hg2,rfl,zs1,rfl,hz1⟩;refine sI ?_;intros;refine dW (h':=⟨G2,PtL p x A c (some ⟨ga,0,none⟩) d ys zs1,[]⟩) (eL (AJ p x A c (some ⟨ga,0,none⟩) d ys zs1).symm) ?_;have hsf:=vV hsr hsl;have hrf:=jJ (y:=eN r lead) hr;have hlf:(p.reps.set k (eN r lead))[j]?=some lead:=by rw[List.getElem?_set_ne (Ne.symm hjk)];exact hl
 have hpf:nw n p k r=(ip (eR { p with isr:=if lead.high≤fD (eN r lead).log then lD p.isr n else p.isr,reps:=p.reps.set k { eN r lead with high:=min r.high (fD (eN r lead).log) } }) k
   { eN r lead with high:=min (max (min r.high (fD (eN r lead).log)) ((eR { p with isr:=if lead.high≤fD (eN r lead).log then lD p.isr n else p.isr,reps:=p.reps.set k { eN r lead with high:=min r.high (fD (eN r lead).log) } }).reps[j]?.getD lead).high) (fD (eN r lead).log) },0):=by
  unfold nw;rw[if_neg k12,if_neg k3,hj];dsimp only;rw[hl]
 have hfh:(eN r lead).high=r.high∧(eN r lead).id=r.id:=⟨rfl,rfl⟩;have hins:Gk Tryz.prog 84 3∨n∈p.isr∨fD (eN r lead).log < lead.high:=by
  rcases hins with h | h | h
  ·exact .inl h
  ·exact .inr (.inl h)
  ·exact .inr (.inr (h j lead hj hl))
 rw[hpf];clear hpf hfo;generalize eN r lead=fr at *;obtain⟨cs,hre,hcl,hld⟩:=hz1.get hrf;have hend:=ji fr cs G2 hre hsf.1 (by have:=hsf.2.1;omega);have hei:=m6 fr.log;obtain⟨A1,c1,B1,d1,rfl,-,-,-,-,hfi⟩:=hre;unfold fL at hend;intros;try refine dU ?_
 intros;refine gR 42 46 c81r7.eq_1 ?_;refine⟨_,ic (.tail _ (.head _)) hcl hld,?_⟩;unfold fL;refine sI ?_;refine fK (hend _ _) ?_;generalize fD fr.log=last at *;have hz2:Cells (RE G2) 7 (p.reps.set k { fr with high:=min r.high last }) (eu zs1 (k * 7+6) [.int .i64 (min fr.high last)]):=by
  have:=Cells.setF (E:=RE G2) (o:=6) (us:=[.int .i64 (min fr.high last)]) (x':={ fr with high:=min r.high last }) hz1 hrf (by simp) fun cs h hl=>by
   obtain⟨A5,c5,B5,d5,rfl,q1,q2,q3,q4,q5⟩:=h;refine⟨A5,c5,B5,d5,?_,q1,q2,q3,q4,by unfold I64 at q5 ⊢;rw[hfh.1]at q5;show _≤min r.high last∧min r.high last≤_;omega⟩;rw[hfh.1];rfl
  rwa [List.set_set]at this
 have hzl1:=hz1.len;rw[List.length_set]at hzl1;intros;try refine dU ?_
 intros;refine gR 46 55 c81r8.eq_1 ?_;refine⟨_,fj (.tail _ (.head _)) (hld 6 _ rfl),?_⟩;refine sI ?_;refine fZ [_] _ rfl (by simp;omega) ⟨rfl,rfl⟩ ?_;refine sI ?_;generalize eu zs1 (k * 7+6) [.int .i64 (min fr.high last)]=zs2 at *;have hrj:(p.reps.set k { fr with high:=min r.high last })[j]?=some lead:=by rw[List.getElem?_set_ne (Ne.symm hjk)];exact hl
 obtain⟨cs,hre2,hcl2',hld2'⟩:=hz2.get hrj;obtain⟨A3,c3,B3,d3,rfl,-⟩:=hre2;have hs:=hok.2.1.1.2.2;generalize hiq:(if lead.high≤last then lD p.isr n else p.isr)=isr' at *;intros;try refine dU ?_
 refine eK (fun e h=>∃ (G3:JT) (A3:JY) (c3:Nat) (ys3:JU) (Lh:JW),(Gle G2 G3∧Cells IE 1 isr' ys3)∧e 0=.pointer (some ⟨x,0,none⟩)∧e 1=.pointer (some ⟨ga,k * 7,none⟩)∧e 6=.pointer (some ⟨ga,j * 7,none⟩)∧e 7=.int .i64 last∧h=⟨G3,Lh,[]⟩∧Lh.Perm (PtL { p with isr:=isr' } x A3 c3 (some ⟨ga,0,none⟩) d ys3 zs2)) ?_ ?_
 ·intros;try refine dU ?_
  intros;refine dT ?_;refine ly _ J9 (by decide) ?_;refine sJ c81r9.eq_1 ?_;refine⟨_,dZ (cs:=eH p A c (some ⟨ga,0,none⟩) d) (.head _) rfl,?_⟩;refine sI ?_;refine⟨_,⟨_,rfl,.g (em hg2 h3)⟩,?_⟩;refine sI ?_;refine(CG p.isr n A c ys _ _ (List.perm_append_comm (l₁:=[_,_]) (l₂:=[_])) hy hs).mono ?_;rintro _ _ ⟨⟨jj,rfl,hjj,hat⟩,rfl⟩;refine sI ?_;intros;try refine dU ?_
  intros;refine gR 65 74 c81r10.eq_1 ?_;refine⟨_,fj (.tail _ (.head _)) (hld2' 6 _ rfl),?_⟩;refine sI ?_;have hd:decide (last≥lead.high)=decide (lead.high≤last):=rfl;refine gd (fun k4=>?_) (fun k4=>?_)
  ·have k4:lead.high≤last:=Kb k4;rw[if_pos k4]at hiq;refine sI ?_;intros;refine gC ?_;refine gb (fun k5=>?_) (fun k5=>?_)
   ·have k5:n∉p.isr:=by simpa using k5
    have hI:Gk Tryz.prog 84 3:=by
     rcases hins with h | h | h
     ·exact h
     ·exact absurd h k5
     ·omega
    intros;refine dT ?_;refine zt _ (.cons_cons _ (.cons_cons _ Ka)) (by decide) ?_;refine sJ c81r11.eq_1 ?_;refine⟨_,dZ (cs:=eH p A c (some ⟨ga,0,none⟩) d) (.head _) rfl,?_⟩;refine sI ?_;refine⟨_,⟨_,rfl,.g (em hg2 h3)⟩,?_⟩;refine sI ?_;intro bv hbv;refine⟨ed Kd (.cons _ (.cons_cons _ (.cons_cons _ Ka))),?_⟩
    refine eP.ghost (h':=⟨G2,[.row (.slice (some ⟨bv,0,none⟩) 1 1) 3 1 1 [.int .i64 n],.row (.slice A p.isr.length c) 3 1 p.isr.length ys]++[.blk x (eH p A c (some ⟨ga,0,none⟩) d),.row (.slice (some ⟨ga,0,none⟩) p.reps.length d) 50 7 p.reps.length zs2],[]⟩) (eL (.cons _ (List.perm_append_comm (l₁:=[_,_]) (l₂:=[_])))) ?_
    refine((hI p.isr n jj A c bv ys G2 hs k5 ⟨hjj,hat⟩ (by have:=hsm.2.2;omega) hn hy) _ _).mono ?_;rintro r' h' ⟨G3,L',rfl,hg3,A4,c4,ys4,rfl,hy4,rfl⟩;rw[hiq]at hy4 ⊢;refine⟨ed hg3 (.cons _ (.cons_cons _ (.cons_cons _ Ka))),?_⟩;refine sJ c81r12.eq_1 ?_;refine ei [_] _ rfl (by simp[eH]) ⟨rfl,rfl⟩ ?_;refine sI ?_
    exact eC ⟨G3,A4,c4,ys4,_,⟨hg3,hy4⟩,eE,eE,eE,eE,rfl,List.perm_append_comm (l₁:=[_]) (l₂:=[_,_])⟩
   ·have k5:n∈p.isr:=by simpa using k5
    rw[qj hs k5]at hiq;subst hiq;intros;refine gN ?_;exact eC ⟨G2,A,c,ys,_,⟨.refl _,hy⟩,eE,eE,eE,eE,rfl,List.Perm.refl _⟩
  ·have k4:¬ lead.high≤last:=Kc k4;rw[if_neg k4]at hiq;subst hiq;refine sI ?_;intros;refine gC ?_;intros;refine gN ?_;exact eC ⟨G2,A,c,ys,_,⟨.refl _,hy⟩,eE,eE,eE,eE,rfl,List.Perm.refl _⟩
 rintro e h ⟨G3,A3,c3,ys3,Lh,⟨hg3,hy3⟩,e0,e1,e6,e7,rfl,hperm⟩;refine dX [0,1,6,7] ?_;refine sJ4 @e0 @e1 @e6 @e7 ?_;intros;refine dW (eL hperm) ?_;have hid1:gz (p.reps.set k { fr with high:=min r.high last })=gz p.reps:=oV hr hfh.2;have hz3:=eU hz2 fun _ _ h=>RE.le hg3 h
 have hraise:=lu (ip { p with isr:=isr' } k { fr with high:=min r.high last }) x A3 c3 (some ⟨ga,0,none⟩) d ys3 zs2 G3 hy3 hz3 (nj hr hfh.2 (g9 (p:=p) hok))
  (fun m hm=>by
   show m∈gz (p.reps.set k _)
   rw[hid1]
   have hm:m∈isr':=hm
   rw[← hiq]at hm
   split at hm
   ·rcases sZ hm with h | rfl
    ·exact hok.2.1.2 m h
    ·exact List.mem_map.2 ⟨r,mem_of_getElem? hr,hrn⟩
   ·exact hok.2.1.2 m hm)
  (qt <| wR hsm.1 hsf) hI
 rw[np]at hraise;have hR:=lI (p:=ip { p with isr:=isr' } k { fr with high:=min r.high last }) k1 ((vu (m:=p.reps) _ hid1).trans hj) hrj;have hRs:=hX (ip { p with isr:=isr' } k { fr with high:=min r.high last });have hRi:=la (p:=ip { p with isr:=isr' } k { fr with high:=min r.high last }) hI;generalize gh _ _ _ _ _=lf at hR
 have hj2:(eR (ip { p with isr:=isr' } k { fr with high:=min r.high last })).reps[j]?=some { lead with high:=max lead.high lf }:=by
  rw[hR];exact jJ hrj
 have hk2:(eR (ip { p with isr:=isr' } k { fr with high:=min r.high last })).reps[k]?=some { fr with high:=min r.high last }:=by
  rw[hR];show((p.reps.set k _).set j _)[k]?=_;rw[List.getElem?_set_ne hjk];exact jJ hr
 change go _ _ _ _ _ (fB _ fun v h=>Av (ip (eR (ip { p with isr:=isr' } k { fr with high:=min r.high last })) k { fr with high:=min (max (min r.high last) (((eR (ip { p with isr:=isr' } k { fr with high:=min r.high last })).reps[j]?).getD lead).high) last },0) x (· = []) h.G h.L v) _ _ _;rw[hj2,Option.getD_some]
 have hyr:Cells IE 1 (eR (ip { p with isr:=isr' } k { fr with high:=min r.high last })).isr ys3:=by rw[hRs.2.2.2.1];exact hy3
 intros;try refine dU ?_
 intros;refine gR 88 90 c81r13.eq_1 ?_;rw[← append_nil (PtL { p with isr:=isr' } x A3 c3 (some ⟨ga,0,none⟩) d ys3 zs2)];refine(hraise _ _).mono ?_;rintro r' h' ⟨G4,L',rfl,hg4,rfl,zs',rfl,hz'⟩;rw[append_nil];clear hR hRs hraise;generalize eR (ip { p with isr:=isr' } k { fr with high:=min r.high last })=p2 at *;obtain⟨cs,hre,-,hldk⟩:=hz'.get hk2;obtain⟨A8,c8,B8,d8,rfl,-⟩:=hre
 obtain⟨cs,hre,-,hldj⟩:=hz'.get hj2;obtain⟨A9,c9,B9,d9,rfl,-⟩:=hre;have hzl4:=hz'.len;have hkl2:=(List.getElem?_eq_some_iff.1 hk2).1;refine sI ?_;intros;try refine dU ?_
 intros;refine dT ?_;refine Ei (by decide) ?_;refine sJ c81r14.eq_1 ?_;refine⟨_,fj (.tail _ (.head _)) (hldk 6 _ rfl),?_⟩;refine sI ?_;refine⟨_,fj (.tail _ (.head _)) (hldj 6 _ rfl),?_⟩;refine sJ c81r15.eq_1 ?_;refine fZ [_] _ rfl (by simp;omega) ⟨rfl,rfl⟩ ?_
 have hz5:Cells (RE G4) 7 (p2.reps.set k { fr with high:=min (max (min r.high last) (max lead.high lf)) last }) (eu zs' (k * 7+6) [.int .i64 (min (max (min r.high last) (max lead.high lf)) last)]) :=
  Cells.setF (E:=RE G4) (o:=6) (us:=[.int .i64 (min (max (min r.high last) (max lead.high lf)) last)]) (x':={ fr with high:=min (max (min r.high last) (max lead.high lf)) last }) hz' hk2 (by simp) fun cs h hl=>by
   obtain⟨A5,c5,B5,d5,rfl,q1,q2,q3,q4,q5⟩:=h;have q5:I64 (min r.high last):=q5;exact⟨A5,c5,B5,d5,rfl,q1,q2,q3,q4,by unfold I64 at q5 ⊢;show _≤min _ last∧min _ last≤_;omega⟩
 refine sI ?_;intros;try refine dU ?_
 intros;refine gR 0 0 c81r16.eq_1 ?_;intros;exact ea (ee _ rfl J9 eT (wc hyr hz5 hRi))
theorem BF(p:Pt)(cs:JU)(n:Int)(G:JT)(hp:PE G p cs)(hsm:smP p)(hn:I64 n)
  (hins:Gk Tryz.prog 84 3∨n∈p.isr∨∀ k r j lead,atR p.reps n=some k→p.reps[k]?=some r→atR p.reps p.leader=some j→p.reps[j]?=some lead→fD (eN r lead).log < lead.high) :
  FnD Tryz.prog 33 #[.agg cs.toArray,.int .i64 n] G (PtR (ofP p n (nw n))):=by
 have hp0:=hp;obtain⟨A,c,B,d,rfl,-,-,hI⟩:=hp;refine F33.fnD (by simp) (d7 ?_);unfold c33;unfold eH at hp0 ⊢;intros;refine gR 0 0 c33r0.eq_1 ?_;intro b3 hb3;refine sI ?_;intros;refine eI (eO [_] _) ?_;rintro h' ⟨G1,rfl,hg1,f3⟩;have f3:=f3 0 _ rfl;rw[eS]at f3
 have hof:=xS p _ n 81 #[.pointer (some ⟨b3,0,none⟩)] (nw n p) G1 (hp0.le hg1) hsm hn fun hok k r hk hr=>zo p n b3 k r G1 hok hsm hI hn f3 hk hr (by
  rcases hins with h | h | h
  ·exact .inl h
  ·exact .inr (.inl h)
  ·exact .inr (.inr fun j lead=>h k r j lead hk hr))
 rw[← jS]at hof;intros;refine gR 6 12 c33r1.eq_1 ?_;refine⟨_,⟨_,rfl,.g f3⟩,?_⟩;refine sI ?_;refine(hof _ _).mono ?_;rintro r h' ⟨G2,rfl,hg2,cs2,rfl,hpe⟩;have hpe0:=hpe;obtain⟨A2,c2,B2,d2,rfl,-⟩:=hpe;unfold eH at hpe0 ⊢;refine sI ?_;intros;refine rW ?_;exact⟨_,rfl,hpe0⟩
def exB:Batch:=⟨0,1,0,0,-1,0,0,false,0,[⟨0,⟨#[]⟩,⟨#[118]⟩,false,0⟩,⟨1,⟨#[]⟩,⟨#[119]⟩,false,0⟩]⟩
def uM:Batch:={ exB with epoch:=1 }
theorem wn:fF exB=0:=by decide +kernel
theorem pM:fF uM=0:=by decide +kernel
theorem yF:(ek uM).length≤4096:=by have:=(jP pM).2;omega
theorem Cp:fN exB 0=(exB,0):=by
 have h:uP exB 0=exB:=by decide +kernel
 rw[fN,if_pos (by decide),if_pos wn,h,if_pos wn]
def pO:Lg:=⟨4096,0,[⟨0,[]⟩]⟩
def mh:Lg:=⟨4096,0,[⟨0,ek uM⟩]⟩
theorem Bg:kO 4096 0=true:=by decide
theorem F1:pL 4096 0=(pO,0):=by rw[pL,if_pos Bg];rfl
theorem t6:gj pO=0:=Cx Bg
theorem Cn:fD pO=0:=by rw[fD,if_pos t6];rfl
theorem mj:jV pO uM=(mh,0):=by
 have h1:xV pO=⟨0,[]⟩:=rfl;have hl:=yF;have h2:jB ⟨0,[]⟩ uM 4096=(⟨0,ek uM⟩,0):=by
  have h3:=AV (s:=⟨0,[]⟩) (b:=uM) (limit:=4096) (gi.2 ⟨rfl,by decide⟩) (by decide) pM (by decide);rw[h3,if_neg (by simp;omega)];simp
 have hlm:pO.limit=4096:=rfl;rw[jV,if_pos t6,if_pos pM,if_neg (by decide),if_neg (by rw[hlm];omega),h1,hlm,h2,if_pos rfl];rfl
theorem py:gj mh=0:=by
 obtain⟨-,-,h,-⟩:=lY (l:=pO) (b:=uM) (by rw[mj])
 rwa [mj]at h
theorem oZ:fD mh=2:=by
 obtain⟨-,-,-,h,-⟩:=lY (l:=pO) (b:=uM) (by rw[mj]);rw[mj]at h;rw[fD,if_pos py];exact h
theorem Gq:mK pO=[]:=by rw[mK,if_pos t6];rfl
theorem Ia:mK mh=[uM]:=by
 have:=zJ (l:=pO) (b:=uM) (by rw[mj]);rw[mj]at this;rw[mK,if_pos py];exact this
theorem EE:rI pO 0=(pO,0):=by
 have h1:Aq pO 0=true:=by decide
 rw[rI,if_pos t6,if_pos h1];rfl
theorem Cr:ue mh 0=mh:=by
 have h:∀ s:Sg,o6 s 0=s:=fun s=>by
  unfold o6;rw[show(min (0:Int) s.bytes.length).toNat=0 by omega,Nat.sub_zero,take_length]
 unfold ue;rw[h];rfl
def exR(n:Int)(up:Bool)(l:Lg)(e:List Ep)(h:Int):Rp:=⟨n,up,l,e,h⟩
def exE:List Ep:=[(1,0)]
theorem vx:iu exE=0:=by
 unfold iu;rw[if_pos];intro i x hi hx
 match i,hi,hx with
 | 0,_,hx=>cases hx;exact⟨by decide,fun p h=>absurd h (by omega)⟩
theorem FD:iu ([]:List Ep)=0:=by
 unfold iu;rw[if_pos];intro i x hi;simp at hi
theorem FL:mi [] 1 0=(exE,0):=by
 rw[vN FD (by decide)];rfl
theorem E6:o4 exE 2=exE:=by
 unfold o4;rw[vx];rfl
theorem HZ(b:List Ep)(ae be:Int):mB [] b ae be=0:=by
 unfold mB;split
 ·rename_i h;exact v9 (Classical.choose_spec h) (.inr (.inr (.inl rfl)))
 ·rfl
theorem Hh:mB exE exE 2 2=2:=by
 refine sK (.inr ⟨vx,vx,.inr ⟨0,(1,0),0,(1,0),rfl,rfl,rfl,fun i' x' k' y' hi hx=>?_,rfl⟩⟩);have:=(List.getElem?_eq_some_iff.1 hx).1;simp[exE]at this;omega
def jl(n:Int):Rp:=exR n true pO [] 0
def fS(n h:Int):Rp:=exR n true mh exE h
def exD:Rp:=exR 0 false mh exE 2
theorem nP{n:Int}(h:idI n=true):okR (jl n):=⟨⟨h,FD,by show(0:Int)≤0;decide,by show(0:Int)≤_;decide⟩,t6,fun _=>by show(0:Int)≤fD pO;rw[Cn];decide⟩
theorem pJ{n m:Int}(h:idI n=true)(h1:0≤m)(h2:m≤2):okR (fS n m):=⟨⟨h,vx,h1,by show m≤_;omega⟩,py,fun _=>by show m≤fD mh;rw[oZ];exact h2⟩
theorem I6:okR exD:=⟨⟨by decide,vx,by decide,by decide⟩,by show gj (jc mh).1=0;rw[wu py];exact py,fun h=>by cases h⟩
def exP(ep ld:Int)(is:J6)(a b c:Rp):Pt:=⟨ep,ld,1,is,[a,b,c]⟩
theorem Cs{ep ld:Int}{is:J6}{a b c:Rp}(h1:idI ep=true)(h2:gz [a,b,c]=[0,1,2])(h3:okR a∧okR b∧okR c)(h4:fV is∧∀ n∈is,n∈([0,1,2]:J6))(h5:ld=-1∨(∃ r∈[a,b,c],r.id=ld∧r.up=true)∧ld∈is):fI (exP ep ld is a b c)=0:=by
 refine kr ⟨⟨h1,?_,by show[a,b,c].length≤5;simp,⟨by show(1:Int)≤1;omega,by show(1:Int)≤(([a,b,c].length:Nat):Int);simp⟩,fun r hr=>?_⟩,⟨h4.1,fun n hn=>?_⟩,h5⟩
 ·show fV (gz [a,b,c]);rw[h2];refine⟨by simp,fun n hn=>?_,by decide⟩;simp at hn;rcases hn with rfl | rfl | rfl <;> decide
 ·have hr:r∈[a,b,c]:=hr;simp at hr;rcases hr with rfl | rfl | rfl
  ·exact h3.1
  ·exact h3.2.1
  ·exact h3.2.2
 ·show n∈gz [a,b,c];rw[h2];exact h4.2 n hn
theorem Gf:fV [0,1,2]∧∀ n∈([0,1,2]:J6),n∈([0,1,2]:J6):=⟨⟨by simp,by decide,by decide⟩,fun n h=>h⟩
theorem r01:fV [0,1]∧∀ n∈([0,1]:J6),n∈([0,1,2]:J6):=⟨⟨by simp,by decide,by decide⟩,by decide⟩
theorem r1:fV [1]∧∀ n∈([1]:J6),n∈([0,1,2]:J6):=⟨⟨by simp,by decide,by decide⟩,by decide⟩
def AF:Pt:=exP 1 0 [0,1,2] (jl 0) (jl 1) (jl 2)
def qZ:Pt:=exP 1 0 [0,1,2] (fS 0 0) (jl 1) (jl 2)
def uN:Pt:=exP 1 0 [0,1,2] (fS 0 0) (fS 1 0) (jl 2)
def uL:Pt:=exP 1 0 [0,1] (fS 0 2) (fS 1 0) (jl 2)
def oc:Pt:=exP 1 (-1) [1] exD (fS 1 0) (jl 2)
def tp:Pt:=exP 2 1 [1] exD (fS 1 2) (jl 2)
def Ax:Pt:=exP 2 1 [1] (fS 0 2) (fS 1 2) (jl 2)
theorem GU:fI AF=0:=Cs (by decide) rfl ⟨nP (by decide),nP (by decide),nP (by decide)⟩ Gf (.inr ⟨⟨jl 0,.head _,rfl,rfl⟩,.head _⟩)
theorem D9:fI qZ=0:=Cs (by decide) rfl ⟨pJ (by decide) (by decide) (by decide),nP (by decide),nP (by decide)⟩ Gf (.inr ⟨⟨fS 0 0,.head _,rfl,rfl⟩,.head _⟩)
theorem ER:fI uN=0:=Cs (by decide) rfl ⟨pJ (by decide) (by decide) (by decide),pJ (by decide) (by decide) (by decide),nP (by decide)⟩ Gf (.inr ⟨⟨fS 0 0,.head _,rfl,rfl⟩,.head _⟩)
theorem FG:fI uL=0:=Cs (by decide) rfl ⟨pJ (by decide) (by decide) (by decide),pJ (by decide) (by decide) (by decide),nP (by decide)⟩ r01 (.inr ⟨⟨fS 0 2,.head _,rfl,rfl⟩,.head _⟩)
theorem Cw:fI oc=0:=Cs (by decide) rfl ⟨I6,pJ (by decide) (by decide) (by decide),nP (by decide)⟩ r1 (.inl rfl)
theorem BB:fI tp=0:=Cs (by decide) rfl ⟨I6,pJ (by decide) (by decide) (by decide),nP (by decide)⟩ r1 (.inr ⟨⟨fS 1 2,.tail _ (.head _),rfl,rfl⟩,.head _⟩)
theorem D5:fI Ax=0:=Cs (by decide) rfl ⟨pJ (by decide) (by decide) (by decide),pJ (by decide) (by decide) (by decide),nP (by decide)⟩ r1 (.inr ⟨⟨fS 1 2,.tail _ (.head _),rfl,rfl⟩,.head _⟩)
theorem Ck:rm [0,1,2] 4096 1=(AF,0):=by
 unfold rm;rw[F1,if_pos ⟨rfl,Gf.1,by decide,by decide,by decide⟩];rfl
theorem Dz:fI j5=1:=jb fun h=>h.1.2.1.1 rfl
theorem Gm(n m h:Int):lz (jl n) (fS m h)=0:=HZ _ _ _
theorem I1(n m h h':Int):lz (fS n h) (fS m h')=2:=by
 show mB exE exE (fD mh) (fD mh)=2;rw[oZ];exact Hh
theorem ox{l:List Rp}{k:Nat}{r:Rp}{m n:Int}(h:atR l n=some k):nI l k r m n=m:=by
 unfold nI;rw[h];dsimp only;rw[if_pos rfl]
theorem nk{l:List Rp}{k i:Nat}{r x:Rp}{m n:Int}(h:atR l n=some i)(hik:i≠k)(hx:l[i]?=some x):nI l k r m n=min m (lz x r):=by
 unfold nI;rw[h];dsimp only;rw[if_neg hik,hx]
theorem nV{p q:Pt}(h:fI p=0):nL p (q,0)=(q,0):=by rw[nL,if_pos h];rfl
theorem yf{p q:Pt}{e:Int}(h:fI p=0)(he:e≠0):nL p (q,e)=(j5,e):=by rw[nL,if_pos h,if_neg he]
theorem uY(p:Pt)(b:Batch):FO p b=if (nL p (lG b p).1).2=0 then(nL p (lG b p).1,(lG b p).2)else((j5,(nL p (lG b p).1).2),0):=rfl
theorem Dx{p:Pt}{b mb:Batch}{k:Nat}{r:Rp}{en:Int}{al:Lg}{pl:List Ep}(k1:¬ p.leader < 0)(k2:¬ (p.isr.length:Int) < p.least)(hk:atR p.reps p.leader=some k)(hr:p.reps[k]?=some r)(he:fD r.log=en)
  (hm:fN b en=(mb,0)) (ha:jV r.log { mb with epoch:=p.epoch }=(al,0)) (hp:mi r.eps p.epoch mb.base=(pl,0)):lG b p=((eR (ip p k { r with log:=al,eps:=pl }),0),mb.base):=by
 unfold lG;rw[if_neg k1,if_neg k2,hk];dsimp only;rw[hr];dsimp only;rw[he,hm];dsimp only;rw[if_neg (fun h=>h rfl),ha];dsimp only;rw[if_neg (fun h=>h rfl),hp];dsimp only;rw[if_neg (fun h=>h rfl)]
theorem H0:eR (exP 1 0 [0,1,2] (fS 0 0) (jl 1) (jl 2))=qZ:=by
 rw[lI (j:=0) (y:=fS 0 0) (by decide) rfl rfl];have:gh [fS 0 0,jl 1,jl 2] 0 (fS 0 0) 2 [0,1,2]=0:=by
  unfold gh;simp only[List.foldl_cons,List.foldl_nil];rw[ox (n:=0) rfl,nk (n:=1) (i:=1) rfl (by decide) rfl,nk (n:=2) (i:=2) rfl (by decide) rfl,Gm,Gm];rfl
 show ip _ 0 { fS 0 0 with high:=max 0 (gh [fS 0 0,jl 1,jl 2] 0 (fS 0 0) (fD mh) [0,1,2]) }=_;rw[oZ,this];rfl
theorem Ds:FO AF exB=((qZ,0),0):=by
 have hF:lG exB AF=((qZ,0),0):=by
  rw[Dx (p:=AF) (b:=exB) (k:=0) (r:=jl 0) (en:=0) (mb:=exB) (al:=mh) (pl:=exE) (by decide) (by decide) rfl rfl Cn Cp mj FL];show((eR (exP 1 0 [0,1,2] (fS 0 0) (jl 1) (jl 2)),(0:Int)),(0:Int))=_;rw[H0]
 rw[uY,hF];dsimp only;rw[nV GU,if_pos rfl]
theorem Eh:eN (jl 1) (fS 0 0)=fS 1 0:=by
 have hc:hH pO mh 0=(mh,true):=by
  unfold hH;dsimp only;rw[EE];dsimp only;rw[Gq,Ia,if_neg (by simp)];show lV pO [uM]=_;rw[lV,mj,if_pos rfl];rfl
 unfold eN;rw[Gm];dsimp only;have h0:min 0 (fD (jl 1).log)=0:=by show min 0 (fD pO)=0;rw[Cn];rfl
 have h1:hH (jl 1).log (fS 0 0).log 0=(mh,true):=hc;rw[h0,h1,if_pos ⟨rfl,by decide,rfl⟩];rfl
theorem GC:eR (exP 1 0 [0,1,2] (fS 0 0) (fS 1 0) (jl 2))=uN:=by
 rw[lI (j:=0) (y:=fS 0 0) (by decide) rfl rfl];have:gh [fS 0 0,fS 1 0,jl 2] 0 (fS 0 0) 2 [0,1,2]=0:=by
  unfold gh;simp only[List.foldl_cons,List.foldl_nil];rw[ox (n:=0) rfl,nk (n:=1) (i:=1) rfl (by decide) rfl,nk (n:=2) (i:=2) rfl (by decide) rfl,I1,Gm];rfl
 show ip _ 0 { fS 0 0 with high:=max 0 (gh [fS 0 0,fS 1 0,jl 2] 0 (fS 0 0) (fD mh) [0,1,2]) }=_;rw[oZ,this];rfl
theorem Cv:ofP qZ 1 (nw 1)=(uN,0):=by
 rw[jS,nQ (k:=1) (r:=jl 1) _ rfl rfl];have hF:nw 1 qZ 1 (jl 1)=(uN,0):=by
  unfold nw;rw[if_neg (by decide),if_neg (by decide),show atR qZ.reps qZ.leader=some 0 from rfl];dsimp only;rw[show qZ.reps[0]?=some (fS 0 0)from rfl];dsimp only;rw[Eh,show fD (fS 1 0).log=2 from oZ,if_pos (by decide),show lD qZ.isr 1=[0,1,2]from rfl]
  show(ip (eR (exP 1 0 [0,1,2] (fS 0 0) (fS 1 (min 0 2)) (jl 2))) 1 { fS 1 0 with high:=min (max (min 0 2) ((eR (exP 1 0 [0,1,2] (fS 0 0) (fS 1 (min 0 2)) (jl 2))).reps[0]?.getD (fS 0 0)).high) 2 },(0:Int))=_;rw[show min (0:Int) 2=0 from rfl,GC];rfl
 rw[hF,nV D9]
theorem Ig:eR (exP 1 0 [0,1] (fS 0 0) (fS 1 0) (jl 2))=uL:=by
 rw[lI (j:=0) (y:=fS 0 0) (by decide) rfl rfl];have:gh [fS 0 0,fS 1 0,jl 2] 0 (fS 0 0) 2 [0,1]=2:=by
  unfold gh;simp only[List.foldl_cons,List.foldl_nil];rw[ox (n:=0) rfl,nk (n:=1) (i:=1) rfl (by decide) rfl,I1];rfl
 show ip _ 0 { fS 0 0 with high:=max 0 (gh [fS 0 0,fS 1 0,jl 2] 0 (fS 0 0) (fD mh) [0,1]) }=_;rw[oZ,this];rfl
theorem BP:ofP uN 2 (nA 2)=(uL,0):=by
 rw[jS,nQ (k:=2) (r:=jl 2) _ rfl rfl];have hF:nA 2 uN 2 (jl 2)=(uL,0):=by
  unfold nA;rw[if_neg (by decide),if_neg (by decide)];show(eR (exP 1 0 [0,1] (fS 0 0) (fS 1 0) (jl 2)),(0:Int))=_;rw[Ig]
 rw[hF,nV ER]
theorem yS:ofP uL 0 (lH 0 0)=(oc,0):=by
 rw[jS,nQ (k:=0) (r:=fS 0 2) _ rfl rfl];have hF:lH 0 0 uL 0 (fS 0 2)=(oc,0):=by
  rw[qC _ _ _ _ _ (by decide) rfl];have h1:kI (fS 0 2) 0=exD:=by
   unfold kI;rw[show ue (fS 0 2).log 0=mh from Cr];rfl
  rw[h1];show(eR oc,(0:Int))=_;rw[show eR oc=oc by unfold eR;rw[if_pos (by decide)]]
 rw[hF,nV FG]
theorem Cl:FO oc exB=((j5,180),0):=by
 have hF:lG exB oc=((oc,180),0):=by unfold lG;rw[if_pos (by decide)]
 rw[uY,hF];dsimp only;rw[yf Cw (by decide),if_neg (by decide)]
theorem Fx:ofP oc 2 (jR 2)=(j5,181):=by
 rw[jS,nQ (k:=2) (r:=jl 2) _ rfl rfl,jR,if_neg (by decide),if_pos (by decide),yf Cw (by decide)]
theorem D8:ofP oc 1 (jR 1)=(tp,0):=by
 rw[jS,nQ (k:=1) (r:=fS 1 0) _ rfl rfl,jR,if_neg (by decide),if_neg (by decide),if_neg (by decide)];have h:eR { oc with epoch:=oc.epoch+1,leader:=1 }=tp:=by
  rw[lI (j:=1) (y:=fS 1 0) (by decide) rfl rfl];have:gh [exD,fS 1 0,jl 2] 1 (fS 1 0) 2 [1]=2:=by
   unfold gh;simp only[List.foldl_cons,List.foldl_nil];rw[ox (n:=1) rfl]
  show ip _ 1 { fS 1 0 with high:=max 0 (gh [exD,fS 1 0,jl 2] 1 (fS 1 0) (fD mh) [1]) }=_;rw[oZ,this];rfl
 rw[h,nV Cw]
theorem Ca:kL tp=(mh,0):=by
 rw[kL,if_neg (fun h=>h BB),if_neg (by decide)];rfl
theorem BC:ofP tp 0 nM=(Ax,0):=by
 rw[jS,nQ (k:=0) (r:=exD) _ rfl rfl,nM,if_neg (by decide)];have h:wy exD=fS 0 2:=by
  unfold wy;rw[show(jc exD.log)=(mh,0)from wu py];dsimp only;rw[oZ,show o4 exD.eps 2=exE from E6];rfl
 rw[h];show nL tp (Ax,0)=_;rw[nV BB]
theorem zZ:ofP Ax 0 nM=(j5,150):=by
 rw[jS,nQ (k:=0) (r:=fS 0 2) _ rfl rfl,nM,if_pos (show(fS 0 2).up=true from rfl),yf D5 (by decide)]
theorem o0{ep ld:Int}{is:J6}{a b c:Rp}{k:Nat}{r:Rp}(h:fI (exP ep ld is a b c)=0)(h0:0≤ld)(hk:atR [a,b,c] ld=some k)(hr:([a,b,c]:List Rp)[k]?=some r):kK (exP ep ld is a b c)=r.high:=by
 rw[kK,if_neg (fun hh=>hh h),if_pos (show 0≤(exP ep ld is a b c).leader from h0)];show(match atR [a,b,c] ld with | some k=>(([a,b,c]:List Rp)[k]?.map Rp.high).getD 0 | none=>0)=_
 rw[hk];dsimp only;rw[hr];rfl
theorem IX:kK qZ=0:=o0 (k:=0) (r:=fS 0 0) D9 (by decide) rfl rfl
theorem Hq:kK uN=0:=o0 (k:=0) (r:=fS 0 0) ER (by decide) rfl rfl
theorem H8:kK uL=2:=o0 (k:=0) (r:=fS 0 2) FG (by decide) rfl rfl
theorem Hk:kK tp=2:=o0 (k:=1) (r:=fS 1 2) BB (by decide) rfl rfl
theorem F43:Fun Tryz.prog 43 5 v43 c43 o43:=Fun.mkA Tryz.func43 Tryz.ntmps43
theorem F11:Fun Tryz.prog 11 191 v11 c11 o11:=Fun.mkA Tryz.func11 Tryz.ntmps11
theorem mL(G:JT):FnD Tryz.prog 43 #[] G (fun G' r=>∃ B d,r=.agg #[.int .i64 0,.int .i64 1,.int .i64 0,.int .i64 0,.int .i64 (-1),.int .i64 0,.int .i64 0,.bool false,.int .i64 0,.slice B 2 d]∧BE G' exB [.int .i64 0,.int .i64 1,.int .i64 0,.int .i64 0,.int .i64 (-1),.int .i64 0,.int .i64 0,.bool false,.int .i64 0,.slice B 2 d]):=by
 refine F43.fnD (by simp) (d7 ?_);unfold c43;intros;refine gR 0 0 c43r0.eq_1 ?_;intros;refine gR 1 5 c43r1.eq_1 ?_;intro b hb;refine sI ?_;intros;try refine dU ?_
 have z0:(ByteArray.mk #[]).size≤maxLen:=by decide
 have z1:(ByteArray.mk #[118]).size≤maxLen:=by decide
 have z2:(ByteArray.mk #[119]).size≤maxLen:=by decide
 have hra:Cells RR 5 exB.recs [.int .i64 0,.string ⟨#[]⟩,.string ⟨#[118]⟩,.bool false,.int .i64 0,.int .i64 1,.string ⟨#[]⟩,.string ⟨#[119]⟩,.bool false,.int .i64 0] :=
  .cons (cs:=[_,_,_,_,_]) ⟨rfl,⟨iH,iH⟩,z0,z1⟩ rfl (.one ⟨rfl,⟨(by decide:I64 1),iH⟩,z0,z2⟩ rfl)
 refine eI (ef [] _ (by decide) hra) ?_;rintro h' ⟨G2,rfl,hg2,A2,c2,hA2,hc2,hm2,hs2⟩;cases hA2;intros;refine rW ?_;exact⟨some ⟨b,0,none⟩,2,rfl,some ⟨b,0,none⟩,2,rfl,⟨hc2,hm2,hs2⟩,iH,(by decide:I64 1),iH,iH,(by decide:I64 (-1)),iH,iH,iH⟩
theorem gU(n:Int):smR (jl n):=⟨ru t6,by show(1:Nat)≤1000;decide,by show(0:Nat)≤1000;decide⟩
theorem gK(n h:Int):smR (fS n h):=⟨ru py,by show(1:Nat)≤1000;decide,by show(1:Nat)≤1000;decide⟩
theorem n7:smR exD:=⟨ru py,by show(1:Nat)≤1000;decide,by show(1:Nat)≤1000;decide⟩
theorem iT{ep ld:Int}{is:J6}{a b c:Rp}(h1:smR a)(h2:smR b)(h3:smR c)(hi:is.length≤1000):smP (exP ep ld is a b c):=by
 refine⟨fun r hr=>?_,by show[a,b,c].length≤1000;simp,hi⟩;have hr:r∈[a,b,c]:=hr;simp at hr;rcases hr with rfl | rfl | rfl <;> assumption
theorem iR{P:Program}{f:FuncId}{args:Array Value}{G:JT}{R R':(JT)→Value→Prop}(h:FnD P f args G R)(hr:∀ G' r,R G' r→R' G' r):FnD P f args G R':=fun L D=>(h L D).mono fun r h' ⟨G',e,hg,hR⟩=>⟨G',e,hg,hr _ _ hR⟩
theorem ptv{ep ld e:Int}{is:J6}{a b c:Rp}{G:JT}{r:Value}(h:PtR (exP ep ld is a b c,e) G r):∃ A c' B d,r=.tuple #[.agg #[.int .i64 ep,.int .i64 ld,.int .i64 1,.slice A is.length c',.slice B 3 d],.int .i64 e]∧PE G (exP ep ld is a b c) [.int .i64 ep,.int .i64 ld,.int .i64 1,.slice A is.length c',.slice B 3 d]:=by
 obtain⟨cs,h1,h2⟩:=h;have h3:=h2;obtain⟨A,c',B,d,rfl,-⟩:=h2;exact⟨A,c',B,d,h1,h3⟩
theorem I4{e:Int}{G:JT}{r:Value}(h:PtR (j5,e) G r):∃ A c B d,r=.tuple #[.agg #[.int .i64 0,.int .i64 0,.int .i64 0,.slice A 0 c,.slice B 0 d],.int .i64 e]:=by
 obtain⟨cs,h1,h2⟩:=h;obtain⟨A,c',B,d,rfl,-⟩:=h2;exact⟨A,c',B,d,h1⟩
theorem Fj(v:Value)(G:JT)(hl:SlV G IE 1 v [0,1,2]):FnD Tryz.prog 13 #[v,.int .i64 4096,.int .i64 1] G (fun G' r=>∃ A c B d,r=.tuple #[.agg #[.int .i64 1,.int .i64 0,.int .i64 1,.slice A 3 c,.slice B 3 d],.int .i64 0]∧PE G' AF [.int .i64 1,.int .i64 0,.int .i64 1,.slice A 3 c,.slice B 3 d]):=by
 have:=xf [0,1,2] 4096 1 v G hl (by decide) (by decide);rw[Ck]at this;exact iR this fun _ _ h=>ptv h
theorem xT{A:JY}{c:Nat}{B:JY}{d:Nat}{cb:JU}(G:JT)(hp:PE G AF [.int .i64 1,.int .i64 0,.int .i64 1,.slice A 3 c,.slice B 3 d])(hb:BE G exB cb):FnD Tryz.prog 25 #[.agg #[.int .i64 1,.int .i64 0,.int .i64 1,.slice A 3 c,.slice B 3 d],.agg cb.toArray] G (fun G' r=>∃ A c B d,r=.tuple #[.agg #[.int .i64 1,.int .i64 0,.int .i64 1,.slice A 3 c,.slice B 3 d],.int .i64 0,.int .i64 0]∧PE G' qZ [.int .i64 1,.int .i64 0,.int .i64 1,.slice A 3 c,.slice B 3 d]):=by
 have:=nW AF exB _ _ G hp (iT (gU _) (gU _) (gU _) (by decide)) hb;rw[Ds]at this;refine iR this fun G' r ⟨cs,h1,h2⟩=>?_
 have h3:=h2;obtain⟨A,c',B,d,rfl,-⟩:=h2;exact⟨A,c',B,d,h1,h3⟩
theorem Da{A:JY}{c:Nat}{B:JY}{d:Nat}(G:JT)(hp:PE G qZ [.int .i64 1,.int .i64 0,.int .i64 1,.slice A 3 c,.slice B 3 d]):FnD Tryz.prog 33 #[.agg #[.int .i64 1,.int .i64 0,.int .i64 1,.slice A 3 c,.slice B 3 d],.int .i64 1] G (fun G' r=>∃ A c B d,r=.tuple #[.agg #[.int .i64 1,.int .i64 0,.int .i64 1,.slice A 3 c,.slice B 3 d],.int .i64 0]∧PE G' uN [.int .i64 1,.int .i64 0,.int .i64 1,.slice A 3 c,.slice B 3 d]):=by
 have:=BF qZ _ 1 G hp (iT (gK _ _) (gU _) (gU _) (by decide)) (by decide) (.inr (.inl (by decide)));rw[Cv]at this;exact iR this fun _ _ h=>ptv h
theorem De{A:JY}{c:Nat}{B:JY}{d:Nat}(G:JT)(hp:PE G uN [.int .i64 1,.int .i64 0,.int .i64 1,.slice A 3 c,.slice B 3 d]):FnD Tryz.prog 44 #[.agg #[.int .i64 1,.int .i64 0,.int .i64 1,.slice A 3 c,.slice B 3 d],.int .i64 2] G (fun G' r=>∃ A c B d,r=.tuple #[.agg #[.int .i64 1,.int .i64 0,.int .i64 1,.slice A 2 c,.slice B 3 d],.int .i64 0]∧PE G' uL [.int .i64 1,.int .i64 0,.int .i64 1,.slice A 2 c,.slice B 3 d]):=by
 have:=Dv uN _ 2 G hp (iT (gK _ _) (gK _ _) (gU _) (by decide)) (by decide);rw[BP]at this;exact iR this fun _ _ h=>ptv h
theorem Ag{A:JY}{c:Nat}{B:JY}{d:Nat}(G:JT)(hp:PE G uL [.int .i64 1,.int .i64 0,.int .i64 1,.slice A 2 c,.slice B 3 d]):FnD Tryz.prog 35 #[.agg #[.int .i64 1,.int .i64 0,.int .i64 1,.slice A 2 c,.slice B 3 d],.int .i64 0,.int .i64 0] G (fun G' r=>∃ A c B d,r=.tuple #[.agg #[.int .i64 1,.int .i64 (-1),.int .i64 1,.slice A 1 c,.slice B 3 d],.int .i64 0]∧PE G' oc [.int .i64 1,.int .i64 (-1),.int .i64 1,.slice A 1 c,.slice B 3 d]):=by
 have:=yX uL _ 0 0 G hp (iT (gK _ _) (gK _ _) (gU _) (by decide)) (by decide) (by decide);rw[yS]at this;exact iR this fun _ _ h=>ptv h
theorem rZ{A:JY}{c:Nat}{B:JY}{d:Nat}{cb:JU}(G:JT)(hp:PE G oc [.int .i64 1,.int .i64 (-1),.int .i64 1,.slice A 1 c,.slice B 3 d])(hb:BE G exB cb):FnD Tryz.prog 25 #[.agg #[.int .i64 1,.int .i64 (-1),.int .i64 1,.slice A 1 c,.slice B 3 d],.agg cb.toArray] G (fun G' r=>∃ A c B d,r=.tuple #[.agg #[.int .i64 0,.int .i64 0,.int .i64 0,.slice A 0 c,.slice B 0 d],.int .i64 0,.int .i64 180]):=by
 have:=nW oc exB _ _ G hp (iT n7 (gK _ _) (gU _) (by decide)) hb;rw[Cl]at this;refine iR this fun G' r ⟨cs,h1,h2⟩=>?_
 obtain⟨A,c',B,d,rfl,-⟩:=h2;exact⟨A,c',B,d,h1⟩
theorem FU{A:JY}{c:Nat}{B:JY}{d:Nat}(G:JT)(hp:PE G oc [.int .i64 1,.int .i64 (-1),.int .i64 1,.slice A 1 c,.slice B 3 d]):FnD Tryz.prog 37 #[.agg #[.int .i64 1,.int .i64 (-1),.int .i64 1,.slice A 1 c,.slice B 3 d],.int .i64 2] G (fun G' r=>∃ A c B d,r=.tuple #[.agg #[.int .i64 0,.int .i64 0,.int .i64 0,.slice A 0 c,.slice B 0 d],.int .i64 181]):=by
 have:=tw oc _ 2 G hp (iT n7 (gK _ _) (gU _) (by decide)) (by decide);rw[Fx]at this;exact iR this fun _ _ h=>I4 h
theorem Fg{A:JY}{c:Nat}{B:JY}{d:Nat}(G:JT)(hp:PE G oc [.int .i64 1,.int .i64 (-1),.int .i64 1,.slice A 1 c,.slice B 3 d]):FnD Tryz.prog 37 #[.agg #[.int .i64 1,.int .i64 (-1),.int .i64 1,.slice A 1 c,.slice B 3 d],.int .i64 1] G (fun G' r=>∃ A c B d,r=.tuple #[.agg #[.int .i64 2,.int .i64 1,.int .i64 1,.slice A 1 c,.slice B 3 d],.int .i64 0]∧PE G' tp [.int .i64 2,.int .i64 1,.int .i64 1,.slice A 1 c,.slice B 3 d]):=by
 have:=tw oc _ 1 G hp (iT n7 (gK _ _) (gU _) (by decide)) (by decide);rw[D8]at this;exact iR this fun _ _ h=>ptv h
theorem CN{A:JY}{c:Nat}{B:JY}{d:Nat}(G:JT)(hp:PE G tp [.int .i64 2,.int .i64 1,.int .i64 1,.slice A 1 c,.slice B 3 d]):FnD Tryz.prog 15 #[.agg #[.int .i64 2,.int .i64 1,.int .i64 1,.slice A 1 c,.slice B 3 d]] G (fun G' r=>∃ A c,r=.tuple #[.agg #[.int .i64 4096,.int .i64 0,.slice A 1 c],.int .i64 0]∧LE G' mh [.int .i64 4096,.int .i64 0,.slice A 1 c]):=by
 have:=wC tp _ G hp (iT n7 (gK _ _) (gU _) (by decide));rw[Ca]at this;refine iR this fun G' r ⟨cs,h1,h2⟩=>?_
 have h3:=h2;obtain⟨A,c',rfl,-⟩:=h2;exact⟨A,c',h1,h3⟩
theorem Cu{A:JY}{c:Nat}{B:JY}{d:Nat}(G:JT)(hp:PE G tp [.int .i64 2,.int .i64 1,.int .i64 1,.slice A 1 c,.slice B 3 d]):FnD Tryz.prog 36 #[.agg #[.int .i64 2,.int .i64 1,.int .i64 1,.slice A 1 c,.slice B 3 d],.int .i64 0] G (fun G' r=>∃ A c B d,r=.tuple #[.agg #[.int .i64 2,.int .i64 1,.int .i64 1,.slice A 1 c,.slice B 3 d],.int .i64 0]∧PE G' Ax [.int .i64 2,.int .i64 1,.int .i64 1,.slice A 1 c,.slice B 3 d]):=by
 have:=wF tp _ 0 G hp (iT n7 (gK _ _) (gU _) (by decide)) (by decide);rw[BC]at this;exact iR this fun _ _ h=>ptv h
theorem Ah{A:JY}{c:Nat}{B:JY}{d:Nat}(G:JT)(hp:PE G Ax [.int .i64 2,.int .i64 1,.int .i64 1,.slice A 1 c,.slice B 3 d]):FnD Tryz.prog 36 #[.agg #[.int .i64 2,.int .i64 1,.int .i64 1,.slice A 1 c,.slice B 3 d],.int .i64 0] G (fun G' r=>∃ A c B d,r=.tuple #[.agg #[.int .i64 0,.int .i64 0,.int .i64 0,.slice A 0 c,.slice B 0 d],.int .i64 150]):=by
 have:=wF Ax _ 0 G hp (iT (gK _ _) (gK _ _) (gU _) (by decide)) (by decide);rw[zZ]at this;exact iR this fun _ _ h=>I4 h
theorem dn0:decide ((0:Int)≠0)=false:=by decide
theorem dn1:decide (((1:Nat):Int)≠1)=false:=by decide
theorem Fe(e:Env)(G:JT)(b3:Nat)(A:JY)(c:Nat)(B:JY)(d:Nat)(A4:JY)(c4:Nat)(B4:JY)(d4:Nat)(A5:JY)(c5:Nat)(B5:JY)(d5:Nat)(A6:JY)(c6:Nat)(B6:JY)(d6:Nat)
  (A9:JY) (c9:Nat) (B9:JY) (d9:Nat) (Aa:JY) (ca:Nat) (Ab:JY) (cb:Nat) (Bb:JY) (db:Nat)
  (hpa:PE G qZ [.int .i64 1,.int .i64 0,.int .i64 1,.slice A 3 c,.slice B 3 d]) (hpb:PE G uN [.int .i64 1,.int .i64 0,.int .i64 1,.slice A4 3 c4,.slice B4 3 d4]) (hpc:PE G uL [.int .i64 1,.int .i64 0,.int .i64 1,.slice A5 2 c5,.slice B5 3 d5]) (hpx:PE G tp [.int .i64 2,.int .i64 1,.int .i64 1,.slice A9 1 c9,.slice B9 3 d9]) (hll:LE G mh [.int .i64 4096,.int .i64 0,.slice Aa 1 ca]) (hpy:PE G Ax [.int .i64 2,.int .i64 1,.int .i64 1,.slice Ab 1 cb,.slice Bb 3 db])
  (e2:e 2=.int .i64 0) (e3:e 3=.pointer (some ⟨b3,0,none⟩)) (e4:e 4=.int .i64 0) (e5:e 5=.int .i64 0) (e7:e 7=.int .i64 0) (e9:e 9=.int .i64 0) (e11:e 11=.int .i64 0) (e14:e 14=.int .i64 180) (e16:e 16=.int .i64 181) (e18:e 18=.int .i64 0) (e20:e 20=.int .i64 0) (e22:e 22=.int .i64 0) (e24:e 24=.int .i64 150) :
  go none Tryz.prog 191 v11.1 v11.2 (fB o11 fun v x=>v=.bool true) [.s (.reg false c11r12),.s (.cond (.t 119) (.seq (.reg false c11r13) .ret) .skip),.s (.seq (.reg false c11r14) .ret)] e
   ⟨G,[.reg 21 [.int .i64 2,.int .i64 1,.int .i64 1,.slice Ab 1 cb,.slice Bb 3 db],.reg 19 [.int .i64 4096,.int .i64 0,.slice Aa 1 ca],.reg 17 [.int .i64 2,.int .i64 1,.int .i64 1,.slice A9 1 c9,.slice B9 3 d9],.reg 10 [.int .i64 1,.int .i64 (-1),.int .i64 1,.slice A6 1 c6,.slice B6 3 d6],.reg 8 [.int .i64 1,.int .i64 0,.int .i64 1,.slice A5 2 c5,.slice B5 3 d5],.reg 6 [.int .i64 1,.int .i64 0,.int .i64 1,.slice A4 3 c4,.slice B4 3 d4],.blk b3 [.int .i64 1,.int .i64 0,.int .i64 1,.slice A 3 c,.slice B 3 d]],[]⟩:=by
 have hna:∀ t:Bool,t=decide ((0:Int)≠0)→t=false:=fun t h=>by rw[h];rfl
 refine dX [2,3,4,5,7,9,11,14,16,18,20,22,24] ?_
 (try simp -implicitDefEqProofs only[mz,mE,push_cast,Nat.reduceBEq,Nat.reduceAdd,Nat.reduceSub,Nat.reduceMul,Nat.reduceLT,Nat.reduceLeDiff,Nat.reduceEqDiff,reduceIte,Bool.not_true,Bool.not_false,true_and,and_true,Option.map_some,Option.bind_some,Int.toNat_natCast,e2,e3,e4,e5,e7,e9,e11,e14,e16,e18,e20,e22,e24])
 intros;refine gr 84 119 ?_;rw[c11r12.eq_1];refine sI ?_;rw[dn0];refine sI ?_;rw[dn0];refine sI ?_;rw[dn0];refine sI ?_;rw[dn0];refine sI ?_;rw[dn0];refine sI ?_;rw[dn0];refine sI ?_;rw[dn0];refine sI ?_;rw[dn0];refine sI ?_;have dn1:decide ((0:Int)+1≠1)=false:=by decide
 have de:∀ n:Int,decide (n=n)=true:=fun n=>decide_eq_true rfl
 have ha:=nu qZ _ G hpa (iT (gK _ _) (gU _) (gU _) (by decide));rw[IX]at ha;have hb:=nu uN _ G hpb (iT (gK _ _) (gK _ _) (gU _) (by decide));rw[Hq]at hb;have hc:=nu uL _ G hpc (iT (gK _ _) (gK _ _) (gU _) (by decide));rw[H8]at hc;have hx:=nu tp _ G hpx (iT n7 (gK _ _) (gU _) (by decide));rw[Hk]at hx;have hend:=pq mh _ G hll (ru py) (by show(1:Nat)≤_;decide);rw[oZ]at hend
 have hcy:=jm Ax _ G hpy (iT (gK _ _) (gK _ _) (gU _) (by decide));rw[D5]at hcy;have hcn:=jm j5 [.int .i64 0,.int .i64 0,.int .i64 0,.slice none 0 0,.slice none 0 0] G ⟨none,0,none,0,rfl,slN,slN,iH,iH,iH⟩ ⟨fun r h=>(by cases h),Nat.zero_le _,Nat.zero_le _⟩;rw[Dz]at hcn;obtain⟨_,_,_,_,hex,hv1,-⟩:=hpx;unfold eH at hex;cases hex;obtain⟨A1,c1,he1,-,-,hA1⟩:=hv1;cases he1;intros;rw[dn1]
 intros;refine gC ?_;intros;refine gN ?_;intros;refine gr 120 190 ?_;rw[c11r14.eq_1];refine sI ?_;refine⟨_,lk (us:=[.int .i64 1,.int .i64 0,.int .i64 1,.slice A 3 c,.slice B 3 d]) (.tail _ (.tail _ (.tail _ (.tail _ (.tail _ (.tail _ (.head _))))))) rfl (fun j u h=>by rw[Nat.zero_add];exact h),?_⟩;refine sI ?_;refine fK (ha _ _) ?_;refine fK (hb _ _) ?_;refine fK (hc _ _) ?_
 refine⟨by decide,(hA1.x_l1 (k:=0) (x:=1) (j:=0) rfl rfl rfl ?_).2⟩;rintro a1 ha1 u1 ⟨hu,-⟩;cases hu;refine sI ?_;refine fK (hx _ _) ?_;refine fK (hend _ _) ?_;refine fK (hcy _ _) ?_;refine fK (hcn _ _) ?_;intros;intros;refine rV ?_;simp only[push_cast,Nat.reduceBEq]
theorem HL(G:JT):FnS Tryz.prog 11 #[] G (.bool true):=by
 refine F11.fnS (by simp) (d7 ?_);unfold c11;intros;refine gR 0 0 c11r0.eq_1 ?_;intros;try refine dU ?_
 intros;refine gR 25 30 c11r1.eq_1 ?_;intro b hb;refine sI ?_;have h012:Cells IE 1 [0,1,2] [.int .i64 0,.int .i64 1,.int .i64 2]:=.cons (cs:=[_]) ⟨rfl,iH⟩ rfl (.cons (cs:=[_]) ⟨rfl,(by decide:I64 1)⟩ rfl (.one ⟨rfl,(by decide:I64 2)⟩ rfl));refine qL F13.enters (ef [] _ (by decide) h012) ?_;rintro h' ⟨G1,rfl,hg1,hv1⟩;refine(Fj _ G1 hv1 _ _).mono ?_;rintro r h' ⟨G2,rfl,hg2,A,c,B,d,rfl,hp0⟩
 refine sI ?_;intros;try refine dU ?_
 refine eK (fun e h=>∃ (G3:JT) (b3:Nat) (A:JY) (c:Nat) (B:JY) (d:Nat) (Lh:JW),PE G3 qZ [.int .i64 1,.int .i64 0,.int .i64 1,.slice A 3 c,.slice B 3 d]∧e 2=.int .i64 0∧e 3=.pointer (some ⟨b3,0,none⟩)∧e 4=.int .i64 0∧e 5=.int .i64 0∧h=⟨G3,Lh,[]⟩∧([.blk b3 [.int .i64 1,.int .i64 0,.int .i64 1,.slice A 3 c,.slice B 3 d]]:JW).Sublist Lh) ?_ ?_
 ·intros;refine dT ?_;refine yY _ J9 (by decide) ?_;refine sJ c11r2.eq_1 ?_;refine⟨?_,?_⟩
  ·refine(mL G2 _ _).mono ?_;rintro r h' ⟨G3,rfl,hg3,Bb,db,rfl,hbe⟩;refine⟨iZ hg3,?_⟩;refine sI ?_;refine⟨?_,?_⟩
   ·refine(xT G3 (hp0.le hg3) hbe _ _).mono ?_;rintro r h' ⟨G4,rfl,hg4,A',c',B',d',rfl,hpa⟩;refine sI ?_;refine⟨iZ (hg3.trans hg4),?_⟩;refine sI ?_;intro b3 hb3;refine⟨ed (hg3.trans hg4) (.cons _ J9),?_⟩;refine sI ?_;refine ei [] _ rfl (by simp) ⟨rfl,rfl⟩ ?_;refine sI ?_;refine⟨ed (hg3.trans hg4) (.cons _ J9),?_⟩;refine sI ?_;exact eC ⟨G4,b3,A',c',B',d',_,hpa,eE,eE,eE,eE,rfl,.cons_cons _ Ka⟩
   ·intro b3 hb3;refine⟨ed hg3 (.cons _ J9),?_⟩;refine sI ?_;refine(xT G3 (hp0.le hg3) hbe _ _).mono ?_;rintro r h' ⟨G4,rfl,hg4,A',c',B',d',rfl,hpa⟩;refine sI ?_;refine⟨ed (hg3.trans hg4) (.cons _ J9),?_⟩;refine sI ?_;refine ei [] _ rfl (by simp) ⟨rfl,rfl⟩ ?_;refine sI ?_;refine⟨ed (hg3.trans hg4) (.cons _ J9),?_⟩;refine sI ?_;exact eC ⟨G4,b3,A',c',B',d',_,hpa,eE,eE,eE,eE,rfl,.cons_cons _ Ka⟩
  ·intro b3 hb3;refine⟨ed Kd (.cons _ J9),?_⟩;refine sI ?_;refine(mL G2 _ _).mono ?_;rintro r h' ⟨G3,rfl,hg3,Bb,db,rfl,hbe⟩;refine⟨ed hg3 (.cons _ J9),?_⟩;refine sI ?_;refine(xT G3 (hp0.le hg3) hbe _ _).mono ?_;rintro r h' ⟨G4,rfl,hg4,A',c',B',d',rfl,hpa⟩;refine sI ?_;refine⟨ed (hg3.trans hg4) (.cons _ J9),?_⟩;refine sI ?_;refine ei [] _ rfl (by simp) ⟨rfl,rfl⟩ ?_;refine sI ?_
   refine⟨ed (hg3.trans hg4) (.cons _ J9),?_⟩;refine sI ?_;exact eC ⟨G4,b3,A',c',B',d',_,hpa,eE,eE,eE,eE,rfl,.cons_cons _ Ka⟩
 rintro e h ⟨G3,b3,A,c,B,d,Lh,hpa,e2,e3,e4,e5,rfl,hsub⟩;refine dX [2,3,4,5] ?_;refine sJ4 @e2 @e3 @e4 @e5 ?_;intros;refine dW (dY hsub) ?_;clear hsub hp0;intros;try refine dU ?_
 intros;refine gR 37 42 c11r3.eq_1 ?_;refine⟨_,lk (us:=[.int .i64 1,.int .i64 0,.int .i64 1,.slice A 3 c,.slice B 3 d]) (.head _) rfl (fun j u h=>by rw[Nat.zero_add];exact h),?_⟩;refine sI ?_;refine(Da G3 hpa _ _).mono ?_;rintro r h' ⟨G4,rfl,hg4,A4,c4,B4,d4,rfl,hpb⟩;refine sI ?_;intros;try refine dU ?_
 intros;refine gR 42 47 c11r4.eq_1 ?_;refine(De G4 hpb _ _).mono ?_;rintro r h' ⟨G5,rfl,hg5,A5,c5,B5,d5,rfl,hpc⟩;refine sI ?_;intros;try refine dU ?_
 intros;refine gR 47 52 c11r5.eq_1 ?_;refine(Ag G5 hpc _ _).mono ?_;rintro r h' ⟨G6,rfl,hg6,A6,c6,B6,d6,rfl,hpd⟩;refine sI ?_;intros;try refine dU ?_
 refine eK (fun e h=>∃ (G7:JT) (Lh:JW),Gle G6 G7∧e 2=.int .i64 0∧e 3=.pointer (some ⟨b3,0,none⟩)∧e 4=.int .i64 0∧e 5=.int .i64 0∧e 7=.int .i64 0∧e 9=.int .i64 0∧e 11=.int .i64 0∧e 14=.int .i64 180∧h=⟨G7,Lh,[]⟩∧([.reg 10 [.int .i64 1,.int .i64 (-1),.int .i64 1,.slice A6 1 c6,.slice B6 3 d6],.reg 8 [.int .i64 1,.int .i64 0,.int .i64 1,.slice A5 2 c5,.slice B5 3 d5],.reg 6 [.int .i64 1,.int .i64 0,.int .i64 1,.slice A4 3 c4,.slice B4 3 d4],.blk b3 [.int .i64 1,.int .i64 0,.int .i64 1,.slice A 3 c,.slice B 3 d]]:JW).Sublist Lh) ?_ ?_
 ·intros;refine dT ?_;refine yY _ J9 (by decide) ?_;refine sJ c11r6.eq_1 ?_;refine⟨?_,?_⟩
  ·refine(mL G6 _ _).mono ?_;rintro r h' ⟨G7,rfl,hg7,Bb,db,rfl,hbe⟩;refine⟨iZ hg7,?_⟩;refine sI ?_;refine⟨?_,?_⟩
   ·refine(rZ G7 (hpd.le hg7) hbe _ _).mono ?_;rintro r h' ⟨G8,rfl,hg8,A',c',B',d',rfl⟩;refine sI ?_;refine⟨iZ (hg7.trans hg8),?_⟩;refine sI ?_;intro b12 hb12;refine⟨ed (hg7.trans hg8) (.cons _ J9),?_⟩;refine sI ?_;refine ei [] _ rfl (by simp) ⟨rfl,rfl⟩ ?_;refine sI ?_;refine⟨ed (hg7.trans hg8) (.cons _ J9),?_⟩;refine sI ?_;exact eC ⟨G8,_,hg7.trans hg8,eE,eE,eE,eE,eE,eE,eE,eE,rfl,.cons _ J9⟩
   ·intro b12 hb12;refine⟨ed hg7 (.cons _ J9),?_⟩;refine sI ?_;refine(rZ G7 (hpd.le hg7) hbe _ _).mono ?_;rintro r h' ⟨G8,rfl,hg8,A',c',B',d',rfl⟩;refine sI ?_;refine⟨ed (hg7.trans hg8) (.cons _ J9),?_⟩;refine sI ?_;refine ei [] _ rfl (by simp) ⟨rfl,rfl⟩ ?_;refine sI ?_;refine⟨ed (hg7.trans hg8) (.cons _ J9),?_⟩;refine sI ?_;exact eC ⟨G8,_,hg7.trans hg8,eE,eE,eE,eE,eE,eE,eE,eE,rfl,.cons _ J9⟩
  ·intro b12 hb12;refine⟨ed Kd (.cons _ J9),?_⟩;refine sI ?_;refine(mL G6 _ _).mono ?_;rintro r h' ⟨G7,rfl,hg7,Bb,db,rfl,hbe⟩;refine⟨ed hg7 (.cons _ J9),?_⟩;refine sI ?_;refine(rZ G7 (hpd.le hg7) hbe _ _).mono ?_;rintro r h' ⟨G8,rfl,hg8,A',c',B',d',rfl⟩;refine sI ?_;refine⟨ed (hg7.trans hg8) (.cons _ J9),?_⟩;refine sI ?_;refine ei [] _ rfl (by simp) ⟨rfl,rfl⟩ ?_;refine sI ?_
   refine⟨ed (hg7.trans hg8) (.cons _ J9),?_⟩;refine sI ?_;exact eC ⟨G8,_,hg7.trans hg8,eE,eE,eE,eE,eE,eE,eE,eE,rfl,.cons _ J9⟩
 rintro e h ⟨G7,Lh,hg7,e2,e3,e4,e5,e7,e9,e11,e14,rfl,hsub⟩;refine dX [2,3,4,5,7,9,11,14] ?_
 (try simp -implicitDefEqProofs only[mz,mE,push_cast,Nat.reduceBEq,Nat.reduceAdd,Nat.reduceSub,Nat.reduceMul,Nat.reduceLT,Nat.reduceLeDiff,Nat.reduceEqDiff,reduceIte,Bool.not_true,Bool.not_false,true_and,and_true,Option.map_some,Option.bind_some,Int.toNat_natCast,e2,e3,e4,e5,e7,e9,e11,e14])
 intros;refine dW (dY hsub) ?_;clear hsub;have hpd:=hpd.le hg7;intros;try refine dU ?_
 intros;refine gR 59 64 c11r7.eq_1 ?_;refine(FU G7 hpd _ _).mono ?_;rintro r h' ⟨G8,rfl,hg8,A8,c8,B8,d8,rfl⟩;refine sI ?_;intros;try refine dU ?_
 intros;refine gR 64 69 c11r8.eq_1 ?_;refine(Fg G8 (hpd.le hg8) _ _).mono ?_;rintro r h' ⟨G9,rfl,hg9,A9,c9,B9,d9,rfl,hpx⟩;refine sI ?_;intros;try refine dU ?_
 intros;refine gR 69 74 c11r9.eq_1 ?_;refine(CN G9 hpx _ _).mono ?_;rintro r h' ⟨Ga,rfl,hga,Aa,ca,rfl,hll⟩;refine sI ?_;intros;try refine dU ?_
 intros;refine gR 74 79 c11r10.eq_1 ?_;refine(Cu Ga (hpx.le hga) _ _).mono ?_;rintro r h' ⟨Gb,rfl,hgb,Ab,cb,Bb,db,rfl,hpy⟩;refine sI ?_;intros;try refine dU ?_
 intros;refine gR 79 84 c11r11.eq_1 ?_;refine(Ah Gb hpy _ _).mono ?_;rintro r h' ⟨Gc,rfl,hgc,Ac,cc,Bc,dc,rfl⟩;refine sI ?_;intros;try refine dU ?_
 intros;try refine dU ?_
 have h7c:Gle G7 Gc:=hg8.trans (hg9.trans (hga.trans (hgb.trans hgc)));have h5c:Gle G5 Gc:=hg6.trans (hg7.trans h7c);refine dW (dY (.cons _ (.cons_cons _ (.cons_cons _ (.cons_cons _ (.cons _ J9)))))) ?_
 exact Fe _ Gc b3 A c B d A4 c4 B4 d4 A5 c5 B5 d5 A6 c6 B6 d6 A9 c9 B9 d9 Aa ca Ab cb Bb db (hpa.le (hg4.trans (hg5.trans h5c))) (hpb.le (hg5.trans h5c)) (hpc.le h5c) (hpx.le (hga.trans (hgb.trans hgc))) (hll.le (hgb.trans hgc)) (hpy.le hgc) (eE) (eE) (eE) (eE) (eE) (eE) (eE) (eE) (eE) (eE) (eE) (eE) (eE)
theorem F12:Fun Tryz.prog 12 43 v12 c12 o12:=Fun.mkA Tryz.func12 Tryz.ntmps12
theorem F34:Fun Tryz.prog 34 20 v34 c34 o34:=Fun.mkA Tryz.func34 Tryz.ntmps34
theorem JH{P:Program}{h:H}{d n dd:Nat}{l:JV}{G:JT}{B:JY}{xs:List Rp}{K:J7}{e:Addr→Env}{j N:Int}{k:Nat}{r:Rp}(hv:SlV G (RE G) 7 (.slice B n dd) xs)(hx:xs[k]?=some r)(hj:j=k)(hN:0≤j∧j < N)(hG:h.G=G)
  (hk:∀ a,B=some a→∀ A1 c1,LE G r.log (eM r.log A1 c1)→kR P l d (e a) K (.agg (eM r.log A1 c1).toArray) h):(0≤j∧j < N)∧∃ a,B=some a∧ldX P (.pointer (some ((a.add (j.toNat * 7)).add 2))) (some 3) d l (e a) h K:=by
 obtain⟨G',L,D⟩:=h;dsimp only at hG;subst hG;obtain⟨a,A1,c1,B1,d1,ha,hre,hl3,-⟩:=qE hv hx;obtain⟨A9,c9,B9,d9,he9,hs9,-,hlim,-⟩:=hre;unfold fL at he9;cases he9;subst hj;exact⟨hN,a,ha,_,by simpa using hl3 L D,hk a ha A1 c1 ⟨A1,c1,rfl,hs9,hlim⟩⟩
theorem I9{P:Program}{h:H}{d n dd:Nat}{l:JV}{G:JT}{B:JY}{xs:List Rp}{K:Env→Prop}{e:Addr→Env}{j N:Int}{k:Nat}{r:Rp}(hv:SlV G (RE G) 7 (.slice B n dd) xs)(hx:xs[k]?=some r)(hj:j=k)(hN:0≤j∧j < N)(hG:h.G=G)
  (hk:∀ a,B=some a→∀ A1 c1,LE G r.log (eM r.log A1 c1)→kQ P l d (e a) h K (.agg (eM r.log A1 c1).toArray)):(0≤j∧j < N)∧∃ a,B=some a∧lqX P (.pointer (some ((a.add (j.toNat * 7)).add 2))) (some 3) d l (e a) h K:=by
 obtain⟨G',L,D⟩:=h;dsimp only at hG;subst hG;obtain⟨a,A1,c1,B1,d1,ha,hre,hl3,-⟩:=qE hv hx;obtain⟨A9,c9,B9,d9,he9,hs9,-,hlim,-⟩:=hre;unfold fL at he9;cases he9;subst hj;exact⟨hN,a,ha,_,by simpa using hl3 L D,hk a ha A1 c1 ⟨A1,c1,rfl,hs9,hlim⟩⟩
theorem Ay(p:Pt)(n:Int)(cs:JU)(G:JT)(hp:PE G p cs):FnS Tryz.prog 34 #[.agg cs.toArray,.int .i64 n] G (.bool (decide (n∈p.isr))):=by
 obtain⟨A,c,B,d,rfl,⟨A0,c0,he,hc,hm,hA⟩,hv2,hI⟩:=hp;cases he;refine F34.fnS (by simp) (d7 ?_);unfold c34 eH;intros;refine gR 0 0 c34r0.eq_1 ?_;intros;refine dT ?_;intros;refine gR 0 0 c34r1.eq_1 ?_;intros;refine dT ?_;refine ej (fun e h=>∃ k:Nat,(k≤p.isr.length∧n∉p.isr.take k)∧e 5=.int .i64 k∧e 1=.int .i64 n∧h=⟨G,[.reg 2 (eH p A c B d)],[]⟩) (fun e h=>p.isr.length - iv (e 5)) ?_ ?_
 ·exact⟨0,⟨Nat.zero_le _,by simp⟩,eE,eE,rfl⟩
 unfold eH;rintro e h ⟨k,⟨hk,hall⟩,e5,e1,rfl⟩;refine dX [5,1] ?_;refine sJ2 @e5 @e1 ?_;intros;refine gR 6 10 c34r2.eq_1 ?_;intros;refine gC ?_;refine gb (fun k1=>?_) (fun k1=>?_)
 ·have k1:k < p.isr.length:=by have:=Kb k1;omega
  have hw:=eY k c (by omega) hm;obtain⟨x,hx⟩:∃ s,p.isr[k]?=some s:=⟨p.isr[k],getElem?_eq_getElem (by omega)⟩;intros;refine gN ?_;intros;refine gR 14 19 c34r3.eq_1 ?_;refine hA.x_l1 hx rfl rfl ?_;rintro a1 ha1 u1 ⟨hu,-⟩;cases hu;refine sI ?_;intros;refine gC ?_;refine gbD (fun k2=>?_) (fun k2=>?_)
  ·intros;refine gR 0 0 c34r4.eq_1 ?_;intros;refine rW ?_;rw[decide_eq_true];rw[← k2];exact mem_of_getElem? hx
  ·intros;refine gN ?_;intros;refine gR2 11 13 c34r5.eq_1 @hw ?_;intros;refine dT ?_;refine eC ⟨⟨k+1,⟨by omega,fun hz=>?_⟩,eE,eE,rfl⟩,?_⟩
   ·rw[eG hx]at hz;rcases List.mem_append.1 hz with h | h
    ·exact hall h
    ·simp at h;exact k2 h.symm
   ·refine sI ?_;omega
 ·have k1:k=p.isr.length:=by have:=Kc k1;omega
  subst k1;rw[take_length]at hall;intros;refine gN ?_;refine eg ?_;refine sI ?_;intros;refine gR 0 0 c34r6.eq_1 ?_;intros;refine rW ?_;rw[decide_eq_false hall]
def IJ(r:Rp):Prop:=r.log.segs.length≤12∧(∀ s∈r.log.segs,s.bytes.length≤5000)∧r.eps.length≤60
def DW(p:Pt):Prop:=p.reps.length≤8∧p.isr.length≤30∧∀ r∈p.reps,IJ r
theorem DW.sm{p:Pt}(h:DW p):smP p:=⟨fun r hr=>⟨fun s hs=>by have:=(h.2.2 r hr).2.1 s hs;omega,by have:=(h.2.2 r hr).1;omega,by have:=(h.2.2 r hr).2.2;omega⟩,by have:=h.1;omega,by have:=h.2.1;omega⟩
theorem Bq(p:Pt)(cs:JU)(G:JT)(hp:PE G p cs):FnE Tryz.prog 12 #[.agg cs.toArray] G (fun r=>∃ b,r=.bool b∧(b=true→DW p)):=by
 obtain⟨A,c,B,d,rfl,⟨A0,c0,he,hc,hm,hA⟩,hv2,hI⟩:=hp;cases he;have hv:=hv2;obtain⟨B0,d0,he,hd,hn,hB⟩:=hv2;cases he;refine F12.fnE (by simp) (d7 ?_);unfold c12 eH;have hd1:decide ((p.reps.length:Int)≤8)=decide (p.reps.length≤8):=decide_eq_decide.2 (by omega);have hd2:decide ((p.isr.length:Int)≤30)=decide (p.isr.length≤30):=decide_eq_decide.2 (by omega)
 have hrest:∀ (fr:J0) (e:Env),(p.reps.length≤9→∀ r∈p.reps,IJ r)→go none Tryz.prog 43 v12.1 v12.2 (fB o12 fun r _=>∃ b,r=.bool b∧(b=true→DW p)) (Td.s ((SC.reg false c12r6).seq .ret) :: fr) e ⟨G,[.reg 1 [.int .i64 p.epoch,.int .i64 p.leader,.int .i64 p.least,.slice A p.isr.length c,.slice B p.reps.length d]],[]⟩:=fun fr e hall=>by
  intros;refine gR2 34 43 c12r6.eq_1 @hd1 ?_;refine gd (fun k1=>?_) (fun k1=>?_)
  ·have k1:=Kb k1;refine sJ @hd2 ?_;intros;refine rW ?_;exact⟨_,rfl,fun h=>by have h:=Kb h;exact⟨k1,h,hall (by omega)⟩⟩
  ·refine sI ?_;intros;refine rW ?_;exact⟨false,rfl,fun h=>by cases h⟩
 intros;refine gR 0 0 c12r0.eq_1 ?_;intros;refine gR 0 0 c12r1.eq_1 ?_;intros;refine dT ?_;refine ej (fun e h=>∃ k:Nat,(k≤p.reps.length∧∀ r∈p.reps.take k,IJ r)∧e 3=.int .i64 k∧h=⟨G,[.reg 1 [.int .i64 p.epoch,.int .i64 p.leader,.int .i64 p.least,.slice A p.isr.length c,.slice B p.reps.length d]],[]⟩) (fun e h=>p.reps.length - iv (e 3)) ?_ ?_
 ·exact⟨0,⟨Nat.zero_le _,by simp⟩,eE,rfl⟩
 rintro e h ⟨k,⟨hk,hall⟩,e3,rfl⟩;refine dX [3] ?_;refine sJ @e3 ?_;intros;refine gR 4 12 c12r2.eq_1 ?_;refine gd (fun k1=>?_) (fun k1=>?_)
 ·have k1:k < p.reps.length:=by have:=Kb k1;omega
  refine sI ?_;intros;refine gC ?_;refine gb (fun k2=>?_) (fun k2=>?_)
  ·have hw:=eY k d (by omega) hn;obtain⟨s,hs⟩:∃ s,p.reps[k]?=some s:=⟨p.reps[k],getElem?_eq_getElem (by omega)⟩
   have hno:∀ (fr:J0) (e:Env),go none Tryz.prog 43 v12.1 v12.2 (fB o12 fun r _=>∃ b,r=.bool b∧(b=true→DW p)) (Td.s ((SC.reg false c12r4).seq .ret) :: fr) e ⟨G,[.reg 1 [.int .i64 p.epoch,.int .i64 p.leader,.int .i64 p.least,.slice A p.isr.length c,.slice B p.reps.length d]],[]⟩:=fun fr e=>by
    intros;refine gR 0 0 c12r4.eq_1 ?_;intros;refine rW ?_;exact⟨false,rfl,fun h=>by cases h⟩
   intros;refine gN ?_;intros;refine gR 16 32 c12r3.eq_1 ?_;refine JH hv hs rfl (by omega) rfl ?_;rintro a ha A1 c1 hle;have hfew:=CQ s.log _ G hle;refine sI ?_;unfold eM at hfew ⊢;refine(hfew _ _).mono ?_;rintro r h ⟨⟨b,rfl,hb⟩,rfl⟩;cases b with
   | false =>
    refine sI ?_;intros;refine gC ?_;exact hno _ _
   | true =>
    have hb:=hb rfl;refine sI ?_;refine Hl (k:=k) (Pu:=fun u=>∃ B d,u=.slice B s.eps.length d) hB hs rfl rfl (fun cs h=>by obtain⟨_,_,B,d,rfl,-⟩:=h;exact⟨_,rfl,B,d,rfl⟩) ?_;rintro a2 ha2 u ⟨B2,d2,rfl⟩;refine sI ?_;intros;refine gC ?_;refine gb (fun k3=>?_) (fun k3=>?_)
    ·exact hno _ _
    ·have k3:=Kc k3;intros;refine gN ?_;intros;refine gR2 13 15 c12r5.eq_1 @hw ?_;intros;refine dT ?_;refine eC ⟨⟨k+1,⟨by omega,fun z hz=>?_⟩,eE,rfl⟩,?_⟩
     ·rw[eG hs]at hz;rcases List.mem_append.1 hz with h | h
      ·exact hall z h
      ·simp at h;subst h;exact⟨hb.1,hb.2,by omega⟩
     ·refine sI ?_;omega
  ·have k2:=Kc k2;refine eg ?_;refine sI ?_;intros;refine gN ?_;exact hrest _ _ fun h=>by omega
 ·have k1:k=p.reps.length:=by have:=Kc k1;omega
  subst k1;rw[take_length]at hall;refine sI ?_;intros;refine gC ?_;refine eg ?_;refine sI ?_;intros;refine gN ?_;exact hrest _ _ fun _=>hall
theorem F148:Fun Tryz.prog 148 24 v148 c148 o148:=Fun.mkA Tryz.func148 Tryz.ntmps148
theorem CS(s:Sg)(cs:JU)(G:JT)(hs:SE G s cs)(hb:s.bytes.length≤1000000):FnO Tryz.prog 148 #[.agg cs.toArray] G [] (fun _ L' r=>rK (mD s) L' r):=by
 have hscan:=pf s cs G hs hb;have hs0:=hs;obtain⟨A,c,rfl,hl,hib⟩:=hs;have hgl:=lp s;refine F148.fnO (by simp) dS (d7 ?_);unfold c148;unfold fX at hscan hs0 ⊢;have hw:IntKind.i64.wrap ((s.bytes.length:Int) - (fY s:Int))=(s.bytes.length:Int) - (fY s:Int):=by rw[eh] <;> omega
 have hpre:=SlV.pre (fY s) hl hgl;obtain⟨_,_,hcc,hlc,-,-⟩:=id hl;cases hcc;intros;refine gR 0 0 c148r0.eq_1 ?_;intros;refine gR 6 11 c148r1.eq_1 ?_;refine(hscan _ _).mono ?_;rintro r h' ⟨G1,L',rfl,hg1,u,zc,rfl,-,rfl⟩;refine sI ?_;intros;refine dW (dY (.cons _ J9)) ?_;intros;refine dT ?_;refine pQ _ (.cons _ J9) (by decide) ?_;refine sJ2 c148r2.eq_1 @hw ?_;refine⟨by omega,?_⟩
 refine(pt (rU _ _ G1 (SB.le hpre hg1) (by rw[List.length_take];omega)) _ _).mono ?_;rintro r h' ⟨G2,L',rfl,hg2,A2,c2,zc2,rfl,-,hzc2,rfl⟩;refine⟨ed hg2 (.cons _ (.cons _ J9)),?_⟩;refine sI ?_;refine⟨ed hg2 (.cons _ (.cons _ J9)),?_⟩;refine sI ?_;intros;refine dT ?_;refine ea (ee _ rfl (.cons_cons _ Ka) (dV dS) ?_);exact⟨_,zc2,rfl,rfl,hzc2⟩
theorem F104:Fun Tryz.prog 104 9 v104 c104 o104:=Fun.mkA Tryz.func104 Tryz.ntmps104
theorem F147:Fun Tryz.prog 147 17 v147 c147 o147:=Fun.mkA Tryz.func147 Tryz.ntmps147
theorem F101:Fun Tryz.prog 101 73 v101 c101 o101:=Fun.mkA Tryz.func101 Tryz.ntmps101
theorem F49:Fun Tryz.prog 49 24 v49 c49 o49:=Fun.mkA Tryz.func49 Tryz.ntmps49
theorem F150:Fun Tryz.prog 150 23 v150 c150 o150:=Fun.mkA Tryz.func150 Tryz.ntmps150
theorem F98:Fun Tryz.prog 98 8 v98 c98 o98:=Fun.mkA Tryz.func98 Tryz.ntmps98
theorem s7(n:Int)(G:JT):FnS Tryz.prog 104 #[.int .i64 n] G (.bool (inO n)):=by
 refine F104.fnS (by simp) (d7 ?_);unfold c104;intros;refine gR 0 0 c104r0.eq_1 ?_;intros;refine gR 3 9 c104r1.eq_1 ?_;refine gdD (fun h=>?_) (fun h=>?_)
 ·refine sI ?_;intros;refine rW ?_;rw[inO,decide_eq_true h,Bool.true_and]
 ·refine sI ?_;intros;refine rW ?_;rw[inO,decide_eq_false h,Bool.false_and]
theorem xP(s t:Sg)(cs ds:JU)(G:JT)(hs:SE G s cs)(ht:SE G t ds)(hb:s.bytes.length≤1000000):FnS Tryz.prog 147 #[.agg cs.toArray,.agg ds.toArray] G (.bool (nX s t)):=by
 have hend:=vT s cs G hs hb;obtain⟨A,c,rfl,hl,hi⟩:=hs;obtain⟨B,d,rfl,hm,hj⟩:=ht;refine F147.fnS (by simp) (d7 ?_);unfold c147;unfold fX at hend ⊢;intros;refine gR 0 0 c147r0.eq_1 ?_;intros;refine dT ?_;refine ly _ J9 (by decide) ?_;refine sJ c147r1.eq_1 ?_;refine gx (fun k1=>?_) (fun k1=>?_)
 ·refine sI ?_;refine fK (hend _ _) ?_;intros;refine rW ?_;rw[nX,k1,Bool.true_and]
 ·refine sI ?_;intros;refine rW ?_;rw[nX,k1,Bool.false_and]
theorem jF{a b:Int}(h:a < 256∨4096 < a∨inO b=false):kO a b=false:=by
 have:¬ kO a b=true:=fun hh=>by
  have:=gZ.1 hh;rcases h with h | h | h
  ·omega
  ·omega
  ·rw[h]at this;exact absurd this.2 (by simp)
 simpa using this
theorem zO(limit start:Int)(G:JT):FnD Tryz.prog 49 #[.int .i64 limit,.int .i64 start] G (LgR (pL limit start)):=by
 refine F49.fnD (by simp) (d7 ?_);unfold c49;have hbad:∀ (fr:J0) (e:Env),kO limit start=false→go none Tryz.prog 24 v49.1 v49.2 (fB o49 fun v h=>LgR (pL limit start) h.G v) (Td.s ((SC.reg false c49r2).seq .ret) :: fr) e ⟨G,[.reg 4 [.int .i64 0,.int .i64 0,.slice none 0 0]],[]⟩:=fun fr e h=>by
  intros;refine gR 17 18 c49r2.eq_1 ?_;intros;refine rW ?_;rw[pL,h];exact gB
 intros;refine gR 0 0 c49r0.eq_1 ?_;intros;refine gR 6 16 c49r1.eq_1 ?_;refine gd (fun k1=>?_) (fun k1=>?_)
 ·refine sI ?_;intros;refine gC ?_;exact hbad _ _ (jF (.inl (Kb k1)))
 have k1:=Kc k1;refine sI ?_;refine gd (fun k2=>?_) (fun k2=>?_)
 ·refine sI ?_;intros;refine gC ?_;exact hbad _ _ (jF (.inr (.inl (Kb k2))))
 have k2:=Kc k2;refine sI ?_;refine fK (s7 _ _ _ _) ?_;intros;refine gC ?_;refine gb (fun k3=>?_) (fun k3=>?_)
 ·exact hbad _ _ (jF (.inr (.inr (by simpa using k3))))
 have k3:inO start=true:=by simpa using k3
 have h:kO limit start=true:=gZ.2 ⟨⟨by omega,by omega⟩,k3⟩;have hi:=we h;intros;refine gN ?_;intros;refine gR 18 24 c49r3.eq_1 ?_;intro b hb;refine sI ?_;intros;try refine dU ?_
 refine eI (ef [] _ (by decide) (Cells.one (E:=SE G) (x:=⟨start,[]⟩) ⟨none,0,rfl,SB.nil,hi.2⟩ rfl)) ?_;rintro h' ⟨G1,rfl,hg1,hv1⟩;intros;refine rW ?_;rw[pL,if_pos h];exact⟨_,rfl,_,1,rfl,hv1.le (.refl _) fun _ _ h=>SE.le hg1 h,hi.1,hi.2⟩
theorem Cz(l:Lg)(cs:JU)(G:JT)(hl:LE G l cs)(hb:smL l.segs):FnS Tryz.prog 150 #[.agg cs.toArray] G (.int .i64 (wq l.start l.segs)):=by
 obtain⟨A,c,rfl,⟨A0,c0,he,hc,hm,hA⟩,hi,hj⟩:=hl;cases he;refine F150.fnS (by simp) (d7 ?_);unfold c150 eM;intros;refine gR 0 0 c150r0.eq_1 ?_;intros;refine gR 6 7 c150r1.eq_1 ?_;intros;refine gR 0 0 c150r2.eq_1 ?_;intros;refine dT ?_
 refine ej (fun e h=>∃ k:Nat,k≤l.segs.length∧e 4=.int .i64 k∧e 3=.int .i64 (wq l.start (l.segs.take k))∧h=⟨G,[.reg 1 [.int .i64 l.limit,.int .i64 l.start,.slice A l.segs.length c]],[]⟩) (fun e h=>l.segs.length - iv (e 4)) ?_ ?_
 ·exact⟨0,Nat.zero_le _,eE,by refine sI ?_;rfl,rfl⟩
 rintro e h ⟨k,hk,e4,e3,rfl⟩;refine dX [3,4] ?_;refine sJ2 @e3 @e4 ?_;intros;refine gR 7 11 c150r3.eq_1 ?_;intros;refine gC ?_;refine gb (fun ht=>?_) (fun ht=>?_)
 ·have ht:k < l.segs.length:=by have:=Kb ht;omega
  have hw:=eY k c (by omega) hm;obtain⟨s,hs⟩:∃ s,l.segs[k]?=some s:=⟨l.segs[k],getElem?_eq_getElem (by omega)⟩;have hbs:=hb s (mem_of_getElem? hs);have hmx:wq l.start (l.segs.take (k+1))=max (wq l.start (l.segs.take k)) (j8 s):=by rw[eG hs,zf];rfl
  intros;refine gN ?_;intros;refine gR 14 22 c150r4.eq_1 ?_;refine hA.x_ld hs rfl rfl ?_;rintro a1 ha1 cs hse;have hend:=vT s cs G hse (by omega);obtain⟨B,d,rfl,-⟩:=hse;unfold fX at hend ⊢;refine sI ?_;refine fK (hend _ _) ?_;intros;refine gR2 12 14 c150r5.eq_1 @hw ?_;intros;refine dT ?_;refine eC ⟨⟨k+1,by omega,eE,(eJ @hmx),rfl⟩,?_⟩;refine sI ?_;omega
 ·have ht:k=l.segs.length:=by have:=Kc ht;omega
  subst ht;rw[take_length]at e3 ⊢;refine eg ?_;refine sI ?_;intros;refine gR 22 23 c150r6.eq_1 ?_;intros;refine rV ?_;simp only[push_cast,Nat.reduceBEq]
theorem oz(l:Lg)(cs:JU)(G:JT)(hl:LE G l cs)(hb:smL l.segs):FnS Tryz.prog 101 #[.agg cs.toArray] G (.int .i64 (gj l)):=by
 obtain⟨A,c,rfl,hsl,hi,hj⟩:=hl;obtain⟨A0,c0,he,hc,hmx,hA⟩:=hsl;cases he;refine F101.fnS (by simp) (d7 ?_);unfold c101 eM
 have hbad:∀ (fr:J0) (e:Env),¬ (kO l.limit l.start=true∧l.segs≠[])→go none Tryz.prog 73 v101.1 v101.2 (fB o101 fun v h=>v=.int .i64 (gj l)) (Td.s ((SC.reg false c101r2).seq .ret) :: fr) e ⟨G,[.reg 1 [.int .i64 l.limit,.int .i64 l.start,.slice A l.segs.length c]],[]⟩:=fun fr e h=>by
  intros;refine gR 0 0 c101r2.eq_1 ?_;intros;refine rW ?_;rw[gj,if_neg fun hh=>h ⟨hh.1,hh.2.1⟩]
 intros;refine gR 0 0 c101r0.eq_1 ?_;intros;refine gR 5 23 c101r1.eq_1 ?_;refine gd (fun k1=>?_) (fun k1=>?_)
 ·refine sI ?_;intros;refine gC ?_;exact hbad _ _ fun h=>by rw[jF (.inl (Kb k1))]at h;cases h.1
 have k1:=Kc k1;refine sI ?_;refine gd (fun k2=>?_) (fun k2=>?_)
 ·refine sI ?_;intros;refine gC ?_;exact hbad _ _ fun h=>by rw[jF (.inr (.inl (Kb k2)))]at h;cases h.1
 have k2:=Kc k2;refine sI ?_;refine fK (s7 _ _ _ _) ?_;refine gd (fun k3=>?_) (fun k3=>?_)
 ·have k3:inO l.start=false:=by simpa using k3
  refine sI ?_;intros;refine gC ?_;exact hbad _ _ fun h=>by rw[jF (.inr (.inr k3))]at h;cases h.1
 have k3:inO l.start=true:=by simpa using k3
 have km:kO l.limit l.start=true:=gZ.2 ⟨⟨by omega,by omega⟩,k3⟩;refine sI ?_;intros;refine gC ?_;refine gb (fun k4=>?_) (fun k4=>?_)
 ·have k4:l.segs=[]:=List.eq_nil_of_length_eq_zero (by have:=Kb k4;omega);exact hbad _ _ fun h=>h.2 k4
 have k4:l.segs≠[]:=fun h=>by rw[h]at k4;simp at k4
 clear hbad;intros;refine gN ?_;intros;try refine dU ?_
 refine eK (fun e h=>okS l.limit none l.segs∧h=⟨G,[.reg 1 [.int .i64 l.limit,.int .i64 l.start,.slice A l.segs.length c]],[]⟩) ?_ ?_
 ·intros;refine gR 0 0 c101r3.eq_1 ?_;intros;refine dT ?_;refine ej (fun e h=>∃ k:Nat,(k≤l.segs.length∧okS l.limit none (l.segs.take k))∧e 3=.int .i64 k∧h=⟨G,[.reg 1 [.int .i64 l.limit,.int .i64 l.start,.slice A l.segs.length c]],[]⟩) (fun e h=>l.segs.length - iv (e 3)) ?_ ?_
  ·exact⟨0,⟨Nat.zero_le _,trivial⟩,eE,rfl⟩
  rintro e h ⟨k,⟨hk,hok⟩,e3,rfl⟩;refine dX [3] ?_;refine sJ @e3 ?_;intros;refine gR 24 28 c101r4.eq_1 ?_;intros;refine gC ?_;refine gb (fun ht=>?_) (fun ht=>?_)
  ·have ht:k < l.segs.length:=by have:=Kb ht;omega
   have hw:=eY k c (by omega) hmx;obtain⟨s,hs⟩:∃ s,l.segs[k]?=some s:=⟨l.segs[k],getElem?_eq_getElem (by omega)⟩;have hbs:=hb s (mem_of_getElem? hs);have hno:∀ (fr:J0) (e:Env) (X:JW),¬ zB l.limit (j6 none (l.segs.take k)) s→go none Tryz.prog 73 v101.1 v101.2 (fB o101 fun v h=>v=.int .i64 (gj l)) (Td.s ((SC.reg false c101r6).seq .ret) :: fr) e ⟨G,X,[]⟩:=fun fr e X hn=>by
    intros;refine gR 0 0 c101r6.eq_1 ?_;intros;refine rW ?_;rw[wQ hs hn]
   have hnx:zB l.limit (j6 none (l.segs.take k)) s→okS l.limit none (l.segs.take (k+1)):=fun h=>(oP hs).2 ⟨hok,h⟩
   intros;refine gN ?_;intros;refine dT ?_;refine ly _ J9 (by decide) ?_;refine sJ c101r5.eq_1 ?_;refine hA.y_ld hs rfl rfl ?_;rintro a1 ha1 cs hse;have hwh:=qh s cs G hse (by omega);obtain⟨B,d,rfl,hsb,hsi⟩:=hse;unfold fX at hwh ⊢;refine sI ?_;refine fK (hwh _ _) ?_;refine gx (fun k5=>?_) (fun k5=>?_)
   ·have k5:fE s=false:=by simpa using k5
    refine sI ?_;intros;refine gC ?_;exact hno _ _ _ fun h=>by have:=h.1.1;rw[k5]at this;cases this
   have k5:fE s=true:=by simpa using k5
   refine sI ?_;refine Js (k:=k) (Pu:=fun u=>∃ B d,u=.slice B s.bytes.length d) hA hs rfl rfl (fun cs h=>by obtain⟨B,d,rfl,-⟩:=h;exact⟨_,rfl,B,d,rfl⟩) ?_;rintro a2 ha2 u ⟨B2,d2,rfl⟩;refine sI ?_;refine gxD (fun k6=>?_) (fun k6=>?_)
   ·refine sI ?_;intros;refine gC ?_;exact hno _ _ _ fun h=>by have:=h.1.2;omega
   refine sI ?_;refine gx (fun k7=>?_) (fun k7=>?_)
   ·have k7:0 < k:=by have:=Kb k7;omega
    have hw1:IntKind.i64.wrap ((k:Int) - 1)=(k:Int) - 1:=by unfold maxLen at hmx;rw[eh] <;> omega
    obtain⟨p,hp⟩:∃ p,l.segs[k - 1]?=some p:=⟨l.segs[k - 1],getElem?_eq_getElem (by omega)⟩;have hbp:=hb p (mem_of_getElem? hp);have hep:=lb k7 hp;refine sJ @hw1 ?_;refine hA.y_ld hp (by omega) rfl ?_;rintro a3 ha3 cs3 hpe;have hpe0:=hpe;obtain⟨B3,d3,rfl,-⟩:=hpe;unfold fX at hpe0 ⊢;refine sI ?_;refine hA.y_ld hs rfl rfl ?_;rintro a4 ha4 cs4 hse4
    have hfo:=xP p s _ cs4 G hpe0 hse4 (by omega);obtain⟨B4,d4,rfl,-⟩:=hse4;unfold fX at hfo ⊢;refine sI ?_;refine fK (hfo _ _) ?_;intros;refine gC ?_;refine gb (fun k8=>?_) (fun k8=>?_)
    ·have k8:nX p s=false:=by simpa using k8
     exact hno _ _ _ fun h=>by have:=h.2 p hep;rw[k8]at this;cases this
    ·have k8:nX p s=true:=by simpa using k8
     intros;refine gN ?_;intros;refine gR2 29 31 c101r7.eq_1 @hw ?_;intros;refine dT ?_;refine eC ⟨⟨k+1,⟨by omega,hnx ⟨⟨k5,by omega⟩,fun a ha=>by rw[hep]at ha;cases ha;exact k8⟩⟩,eE,rfl⟩,?_⟩;refine sI ?_;omega
   ·have k7:k=0:=by have:=Kc k7;omega
    refine sI ?_;intros;refine gC ?_;intros;refine gN ?_;intros;refine gR2 29 31 c101r7.eq_1 @hw ?_;intros;refine dT ?_;refine eC ⟨⟨k+1,⟨by omega,hnx ⟨⟨k5,by omega⟩,fun a ha=>by rw[k7]at ha;cases ha⟩⟩,eE,rfl⟩,?_⟩;refine sI ?_;omega
  ·have ht:k=l.segs.length:=by have:=Kc ht;omega
   subst ht;rw[take_length]at hok;refine eg ?_;refine sI ?_;intros;refine gN ?_;exact eC ⟨hok,rfl⟩
 rintro e h ⟨hok,rfl⟩;refine dX [] ?_;intros;intros;refine gR 70 72 c101r8.eq_1 ?_;intros;refine gC ?_;refine gbD (fun k5=>?_) (fun k5=>?_)
 ·intros;refine gR 0 0 c101r9.eq_1 ?_;intros;refine rW ?_;rw[gj,if_pos ⟨km,k4,hok⟩,if_pos (by omega)]
 ·intros;refine gN ?_;intros;refine gR 0 0 c101r10.eq_1 ?_;intros;refine rW ?_;rw[gj,if_pos ⟨km,k4,hok⟩,if_neg (by omega)]
theorem yW(l:Lg)(cs:JU)(G:JT)(hl:LE G l cs)(hb:smL l.segs):FnS Tryz.prog 98 #[.agg cs.toArray] G (.int .i64 (fD l)):=by
 have hchk:=oz l cs G hl hb;have hend:=Cz l cs G hl hb;obtain⟨A,c,rfl,hsl,hi,hj⟩:=hl;refine F98.fnS (by simp) (d7 ?_);unfold c98;unfold eM at hchk hend ⊢;intros;refine gR 0 0 c98r0.eq_1 ?_;intros;refine gR 3 5 c98r1.eq_1 ?_;refine fK (hchk _ _) ?_;intros;refine gC ?_;refine gb (fun k1=>?_) (fun k1=>?_)
 ·have k1:=Kb k1;intros;refine gR 0 0 c98r2.eq_1 ?_;intros;refine rW ?_;rw[fD,if_neg k1]
 ·have k1:gj l=0:=by simpa using k1
  intros;refine gN ?_;intros;refine gR 6 8 c98r3.eq_1 ?_;refine fK (hend _ _) ?_;intros;refine rW ?_;rw[fD,if_pos k1,BQ (iS k1).2.2.1]
theorem F97:Fun Tryz.prog 97 108 v97 c97 o97:=Fun.mkA Tryz.func97 Tryz.ntmps97
def uu(l:List Sg):Bool:=lO none l && (match j6 none l with | none=>true | some a=>fE a)
theorem yQ{l:List Sg}{k:Nat}{s:Sg}(h:l[k]?=some s):(uu (l.take k) && (match j6 none (l.take k)with | none=>true | some a=>nX a s))=lO none (l.take (k+1))∧uu (l.take (k+1))=(lO none (l.take (k+1)) && fE s):=by
 have h2:=(rY h).2;constructor
 ·rw[h2,uu];cases j6 none (l.take k)with
  | none=>simp[jv]
  | some a=>simp[jv,Bool.and_assoc]
 ·rw[uu,nh none h]
set_option maxHeartbeats 1000000 in
theorem Dm(l:Lg)(cs:JU)(G:JT)(hl:LE G l cs)(hb:smL l.segs)(hm:l.segs.length≤1000):
  FnD Tryz.prog 97 #[.agg cs.toArray] G (LgR (jc l)):=by
 obtain⟨A,c,rfl,hsl,hi,hj⟩:=hl;have hsl0:=hsl;obtain⟨A0,c0,he,hc,hmx,hA⟩:=hsl;cases he;refine F97.fnD (by simp) (d7 ?_);unfold c97 eM
 have hbad:∀ (fr:J0) (e:Env),¬ (kO l.limit l.start=true∧lB l=true)→go none Tryz.prog 108 v97.1 v97.2 (fB o97 fun v h=>LgR (jc l) h.G v) (Td.s ((SC.reg false c97r2).seq .ret) :: fr) e ⟨G,[.reg 2 [.int .i64 0,.int .i64 0,.slice none 0 0],.reg 1 [.int .i64 l.limit,.int .i64 l.start,.slice A l.segs.length c]],[]⟩:=fun fr e h=>by
  intros;refine gR 39 40 c97r2.eq_1 ?_;intros;refine rW ?_;rw[jc,if_neg h];exact gB
 intros;refine gR 0 0 c97r0.eq_1 ?_;intros;intros;try refine dU ?_
 refine eK (fun e h=>(kO l.limit l.start=true∧lB l=true)∧h=⟨G,[.reg 2 [.int .i64 0,.int .i64 0,.slice none 0 0],.reg 1 [.int .i64 l.limit,.int .i64 l.start,.slice A l.segs.length c]],[]⟩) ?_ ?_
 ·intros;refine gR 11 38 c97r1.eq_1 ?_;refine gd (fun k1=>?_) (fun k1=>?_)
  ·refine sI ?_;intros;refine gC ?_;exact hbad _ _ fun h=>by rw[jF (.inl (Kb k1))]at h;cases h.1
  have k1:=Kc k1;refine sI ?_;refine gd (fun k2=>?_) (fun k2=>?_)
  ·refine sI ?_;intros;refine gC ?_;exact hbad _ _ fun h=>by rw[jF (.inr (.inl (Kb k2)))]at h;cases h.1
  have k2:=Kc k2;refine sI ?_;refine fK (s7 _ _ _ _) ?_;refine gd (fun k3=>?_) (fun k3=>?_)
  ·have k3:inO l.start=false:=by simpa using k3
   refine sI ?_;intros;refine gC ?_;exact hbad _ _ fun h=>by rw[jF (.inr (.inr k3))]at h;cases h.1
  have k3:inO l.start=true:=by simpa using k3
  have km:kO l.limit l.start=true:=gZ.2 ⟨⟨by omega,by omega⟩,k3⟩;refine sI ?_;refine gd (fun k4=>?_) (fun k4=>?_)
  ·have k4:l.segs=[]:=List.eq_nil_of_length_eq_zero (by have:=Kb k4;omega);have hh:lB l=false:=by unfold lB;rw[k4]
   refine sI ?_;intros;refine gC ?_;exact hbad _ _ fun h=>by rw[hh]at h;cases h.2
  have k4:¬ l.segs=[]:=fun h=>by rw[h]at k4;simp at k4
  obtain⟨s0,ss,hss⟩:=List.exists_cons_of_ne_nil k4;have hs0:l.segs[0]?=some s0:=by rw[hss];rfl
  have hh:lB l=inO s0.base:=by unfold lB;rw[hss]
  refine sI ?_;refine hA.x_lf (k:=0) (u:=.int .i64 s0.base) hs0 rfl rfl (fun cs h=>by obtain⟨_,_,rfl,-⟩:=h;rfl) fun a ha=>?_
  refine sI ?_;refine fK (s7 _ _ _ _) ?_;intros;refine gC ?_;refine gb (fun k5=>?_) (fun k5=>?_)
  ·have k5:inO s0.base=false:=by simpa using k5
   exact hbad _ _ fun h=>by rw[hh,k5]at h;cases h.2
  ·have k5:inO s0.base=true:=by simpa using k5
   intros;refine gN ?_;exact eC ⟨⟨km,by rw[hh,k5]⟩,rfl⟩
 rintro e h ⟨⟨k1,k2⟩,rfl⟩;refine dX [] ?_;clear hbad;have hrec:jc l=(⟨l.limit,l.start,fJ none l.segs⟩,(fW l.segs:Int) - (fW (fJ none l.segs):Int)):=by rw[jc,if_pos ⟨k1,k2⟩]
 rw[hrec];have hsm:=wA hb;intros;intros;refine gR 41 45 c97r3.eq_1 ?_;intros;refine gR 0 0 c97r4.eq_1 ?_;intros;refine gR 0 0 c97r5.eq_1 ?_;intros;intros;try refine dU ?_
 refine dW (ew none 120 2) ?_
 refine eK (fun e h=>∃ (G':JT) (A2:JY) (c2:Nat) (zc:JU),(Gle G G'∧Cells (SE G') 2 (fJ none l.segs) zc)∧e 5=.int .i64 ((fW l.segs:Int) - (fW (fJ none l.segs):Int))∧h=⟨G',[.row (.slice A2 (fJ none l.segs).length c2) 120 2 (fJ none l.segs).length zc,.reg 4 [.int .i64 l.limit,.int .i64 l.start,.slice A2 (fJ none l.segs).length c2],.reg 2 [.int .i64 0,.int .i64 0,.slice none 0 0],.reg 1 [.int .i64 l.limit,.int .i64 l.start,.slice A l.segs.length c]],[]⟩) ?_ ?_
 ·intros;refine gR 0 0 c97r6.eq_1 ?_;intros;refine dT ?_
  refine ej (fun e h=>∃ (k:Nat) (G':JT) (A2:JY) (c2:Nat) (zc:JU),(k≤l.segs.length∧Gle G G'∧Cells (SE G') 2 (fJ none (l.segs.take k)) zc)∧e 7=.int .i64 k∧e 5=.int .i64 ((fW (l.segs.take k):Int) - (fW (fJ none (l.segs.take k)):Int))∧e 6=.bool (uu (l.segs.take k))∧h=⟨G',[.row (.slice A2 (fJ none (l.segs.take k)).length c2) 120 2 (fJ none (l.segs.take k)).length zc,.reg 4 [.int .i64 l.limit,.int .i64 l.start,.slice A2 (fJ none (l.segs.take k)).length c2],.reg 2 [.int .i64 0,.int .i64 0,.slice none 0 0],.reg 1 [.int .i64 l.limit,.int .i64 l.start,.slice A l.segs.length c]],[]⟩) (fun e h=>l.segs.length - iv (e 7)) ?_ ?_
  ·exact⟨0,G,none,0,[],⟨Nat.zero_le _,.refl _,.nil⟩,eE,by refine sI ?_;rfl,by refine sI ?_;rfl,rfl⟩
  rintro e h ⟨k,G',A2,c2,zc,⟨hk,hg',hzc⟩,e7,e5,e6,rfl⟩;refine dX [5,6,7] ?_;refine sJ3 @e5 @e6 @e7 ?_;intros;refine gR 45 49 c97r7.eq_1 ?_;intros;refine gC ?_;refine gb (fun ht=>?_) (fun ht=>?_)
  ·have ht:k < l.segs.length:=by have:=Kb ht;omega
   have hw:=eY k c (by omega) hmx;obtain⟨s,hs⟩:∃ s,l.segs[k]?=some s:=⟨l.segs[k],getElem?_eq_getElem (by omega)⟩;have hbs:=hb s (mem_of_getElem? hs);obtain⟨hr1,hr2⟩:=rY hs;obtain⟨hk1,hk2⟩:=yQ hs;rw[← hr2]at hr1;obtain⟨hle,-⟩:=o8 (l.segs.take k) none;have hlk:(l.segs.take k).length=k:=by rw[List.length_take];omega
   rw[hlk]at hle;have hz1:fW (l.segs.take (k+1))=fW (l.segs.take k)+s.bytes.length:=by rw[eG hs,lr];simp[fW]
   have hz2:=p8 l.segs (k+1);have hz3:=oU (l.segs.take k) none;have hA':=hA.le hg' (E':=SE G') fun _ _ h=>SE.le hg' h
   intros;refine gN ?_;intros;try refine dU ?_
   refine tM ?_;intros;try refine dU ?_
   refine eK (fun e h=>e 6=.bool (lO none (l.segs.take (k+1)))∧e 7=.int .i64 k∧e 5=.int .i64 ((fW (l.segs.take k):Int) - (fW (fJ none (l.segs.take k)):Int))∧h=⟨G',[.row (.slice A2 (fJ none (l.segs.take k)).length c2) 120 2 (fJ none (l.segs.take k)).length zc,.reg 4 [.int .i64 l.limit,.int .i64 l.start,.slice A2 (fJ none (l.segs.take k)).length c2],.reg 2 [.int .i64 0,.int .i64 0,.slice none 0 0],.reg 1 [.int .i64 l.limit,.int .i64 l.start,.slice A l.segs.length c]],[]⟩) ?_ ?_
   ·intros;refine dT ?_;refine ly _ J9 (by decide) ?_;refine sJ c97r8.eq_1 ?_;refine gx (fun k3=>?_) (fun k3=>?_)
    ·rw[k3,Bool.true_and]at hk1;refine sI ?_;refine gx (fun k4=>?_) (fun k4=>?_)
     ·have k4:k=0:=by have:=Kb k4;omega
      have hq:lO none (l.segs.take (k+1))=true:=by rw[← hk1,k4];rfl
      refine sI ?_;intros;refine dT ?_;exact eC ⟨(eJ @hq),eE,eE,rfl⟩
     ·have k4:0 < k:=by have:=Kc k4;omega
      have hw1:IntKind.i64.wrap ((k:Int) - 1)=(k:Int) - 1:=by unfold maxLen at hmx;rw[eh] <;> omega
      obtain⟨p,hp⟩:∃ p,l.segs[k - 1]?=some p:=⟨l.segs[k - 1],getElem?_eq_getElem (by omega)⟩;have hbp:=hb p (mem_of_getElem? hp);rw[lb k4 hp]at hk1;have hq:lO none (l.segs.take (k+1))=nX p s:=hk1.symm;refine sJ @hw1 ?_;refine hA'.y_ld hp (by omega) rfl ?_;rintro a2 ha2 cs2 hpe;have hpe0:=hpe;obtain⟨B2,d2,rfl,-⟩:=hpe;unfold fX at hpe0 ⊢;refine sI ?_;refine hA'.y_ld hs rfl rfl ?_
      rintro a3 ha3 cs3 hse;have hfo:=xP p s _ cs3 G' hpe0 hse (by omega);obtain⟨B3,d3,rfl,-⟩:=hse;unfold fX at hfo ⊢;refine sI ?_;refine fK (hfo _ _) ?_;intros;refine dT ?_;exact eC ⟨(eJ @hq),eE,eE,rfl⟩
    ·rw[k3,Bool.false_and]at hk1;have hq:lO none (l.segs.take (k+1))=false:=hk1.symm;refine sI ?_;intros;refine dT ?_;exact eC ⟨(eJ @hq),eE,eE,rfl⟩
   rintro e h ⟨e6,e7,e5,rfl⟩;refine dX [5,6,7] ?_;refine sJ3 @e5 @e6 @e7 ?_;intros;refine gR 71 72 c97r9.eq_1 ?_;intros;refine gC ?_;refine gb (fun k3=>?_) (fun k3=>?_)
   ·have k3:lO none (l.segs.take (k+1))=false:=by simpa using k3
    rw[k3]at hr1 hk2 ⊢;have hr1':fJ none (l.segs.take (k+1))=fJ none (l.segs.take k):=by rw[hr1];simp
    have hq:uu (l.segs.take (k+1))=false:=by rw[hk2];rfl
    have hw2:IntKind.i64.wrap ((fW (l.segs.take k):Int) - (fW (fJ none (l.segs.take (k+1))):Int)+(s.bytes.length:Int))=(fW (l.segs.take (k+1)):Int) - (fW (fJ none (l.segs.take (k+1))):Int):=by rw[hr1',hz1,eh] <;> omega
    rw[← hr1']at hzc ⊢;intros;refine gR 73 82 c97r10.eq_1 ?_;refine Hl (k:=k) (Pu:=fun u=>∃ B d,u=.slice B s.bytes.length d) hA' hs rfl rfl (fun cs h=>by obtain⟨B,d,rfl,-⟩:=h;exact⟨_,rfl,B,d,rfl⟩) ?_;rintro a ha u ⟨B,d,rfl⟩;refine sJ @hw2 ?_;intros;intros;refine dT ?_;refine eg ?_;refine sI ?_;intros;refine gR2 50 52 c97r15.eq_1 @hw ?_;intros;refine dT ?_
    refine eC ⟨⟨k+1,G',A2,c2,zc,⟨by omega,hg',hzc⟩,eE,eE,(eJ @hq),rfl⟩,?_⟩;refine sI ?_;omega
   ·have k3:lO none (l.segs.take (k+1))=true:=by simpa using k3
    rw[k3,if_pos rfl]at hr1;rw[k3,Bool.true_and]at hk2;have hfl:=(yP s).2.2;have hgl:=lp s;have hf2:(mD s).2=(s.bytes.length:Int) - (fY s:Int):=rfl;have hfb:(mD s).1.base=s.base:=rfl;have hw2:IntKind.i64.wrap ((fW (l.segs.take k):Int) - (fW (fJ none (l.segs.take k)):Int)+(mD s).2)=(fW (l.segs.take (k+1)):Int) - (fW (fJ none (l.segs.take (k+1))):Int):=by
     rw[hr1,lr,hz1,hf2];simp only[fW,hfl];rw[eh] <;> omega
    intros;refine gN ?_;intros;refine gR 82 91 c97r11.eq_1 ?_;refine hA'.x_ld hs rfl rfl ?_;rintro a ha cs hse;have hfix:=lS (CS s cs G' hse (by omega));obtain⟨B,d,rfl,hsb,hsi⟩:=hse;unfold fX at hfix ⊢;refine sI ?_;generalize mD s=q at *;obtain⟨s',er⟩:=q;dsimp only at hfl hf2 hfb hw2 hr1;refine(hfix _ _).mono ?_;rintro r h' ⟨G2,rfl,hg2,A3,c3,rfl,hs3⟩;dsimp only at hs3 ⊢
    have hzc2:Cells (SE G2) 2 (fJ none (l.segs.take k)) zc:=eU hzc fun _ _ h=>SE.le hg2 h
    have hse3:SE G2 s' [.int .i64 s'.base,.slice A3 s'.bytes.length c3]:=⟨A3,c3,rfl,hs3,by rw[hfb];exact hsi⟩;have hA2:=hA.le (hg'.trans hg2) (E':=SE G2) fun _ _ h=>SE.le (hg'.trans hg2) h
    refine sI ?_;intros;refine gR 92 96 c97r12.eq_1 ?_;intro bk hbk;refine ts (L1:=[_]) (L2:=[_,_,_]) (E:=SE G2) (x:=s') rfl hse3 rfl (by simp[Value.oneCell']) hzc2 (by omega) (by omega) fun A' c' zc' hzc'=>?_
    rw[← hr1]at hzc' ⊢;refine sI ?_;intros;refine gR2 97 100 c97r13.eq_1 @hw2 ?_;intros;refine gR 101 106 c97r14.eq_1 ?_;refine hA2.x_ld hs rfl rfl ?_;rintro a4 ha4 cs4 hse4;have hwh:=qh s cs4 G2 hse4 (by omega);obtain⟨B4,d4,rfl,-⟩:=hse4;unfold fX at hwh ⊢;refine sI ?_;refine fK (hwh _ _) ?_;intros;intros;refine gN ?_;refine dW (dY (.cons _ (.cons _ J9))) ?_
    intros;refine gR2 50 52 c97r15.eq_1 @hw ?_;intros;refine dT ?_;refine eC ⟨⟨k+1,G2,A',c',zc',⟨by omega,hg'.trans hg2,hzc'⟩,eE,eE,(eJ @hk2),rfl⟩,?_⟩;refine sI ?_;omega
  ·have ht:k=l.segs.length:=by have:=Kc ht;omega
   subst ht;rw[take_length]at hzc e5 ⊢;refine eg ?_;refine sI ?_;intros;refine gN ?_;exact eC ⟨G',A2,c2,zc,⟨hg',hzc⟩,eE,rfl⟩
 rintro e h ⟨G1,A2,c2,zc,⟨hg1,hzc⟩,e5,rfl⟩;refine dX [5] ?_;refine sJ @e5 ?_;intros;refine eI (ef [] _ (by decide) hzc) ?_;rintro h' ⟨G2,rfl,hg2,hv2⟩;intros;refine gR 106 108 c97r16.eq_1 ?_;intros;refine rW ?_;exact⟨_,rfl,A2,c2,rfl,hv2.le (.refl _) fun _ _ h=>SE.le hg2 h,hi,hj⟩
theorem F78:Fun Tryz.prog 78 26 v78 c78 o78:=Fun.mkA Tryz.func78 Tryz.ntmps78
theorem FQ(x y:Ep):yK true [0,0] (.agg #[Value.int .i64 x.1,Value.int .i64 x.2]) (.agg #[Value.int .i64 y.1,Value.int .i64 y.2])=some (.bool (decide (x≠y))):=by
 have:decide (x=y)=(decide (x.1=y.1) && decide (x.2=y.2)):=by
  rw[Bool.eq_iff_iff];simp[Prod.ext_iff]
 simp[yK,eqC,this,Bool.not_and]
theorem yZ(a b:List Ep)(v u:Value)(G:JT)(ha:SEp G v a)(hb:SEp G u b):FnS Tryz.prog 78 #[v,u] G (.bool (decide (a=b))):=by
 obtain⟨A,c,rfl,hc,hm,hA⟩:=ha;obtain⟨B,c',rfl,hc',hm',hB⟩:=hb;refine F78.fnS (by simp) (d7 ?_);unfold c78;intros;refine gR 0 0 c78r0.eq_1 ?_;intros;refine gR 6 10 c78r1.eq_1 ?_;intros;refine gC ?_;refine gb (fun ht=>?_) (fun ht=>?_)
 ·intros;refine gR 0 0 c78r2.eq_1 ?_;intros;refine rW ?_;have:¬ a=b:=fun e=>by subst e;simp at ht
  simp[this]
 have hlen:a.length=b.length:=by simp at ht;omega
 intros;refine gR 11 12 c78r3.eq_1 ?_;intros;refine dT ?_;refine ej (fun e h=>∃ k:Nat,(k≤a.length∧a.take k=b.take k)∧e 13=.int .i64 k∧e 12=.int .i64 a.length∧e 0=.slice A a.length c∧e 1=.slice B b.length c'∧h=⟨G,[],[]⟩) (fun e h=>a.length - iv (e 13)) ?_ ?_
 ·exact⟨0,⟨Nat.zero_le _,rfl⟩,eE,eE,eE,eE,rfl⟩
 ·rintro e h ⟨k,⟨hk,hch⟩,e13,e12,e0,e1,rfl⟩;refine dX [0,1,12,13] ?_;refine sJ4 @e0 @e1 @e12 @e13 ?_;intros;refine gR 0 0 c78r4.eq_1 ?_;intros;refine gC ?_;refine gb (fun ht=>?_) (fun ht=>?_)
  ·have hkl:k < a.length:=by simpa using ht
   obtain⟨x,hx⟩:∃ x,a[k]?=some x:=⟨a[k],getElem?_eq_getElem (by omega)⟩;obtain⟨y,hy⟩:∃ y,b[k]?=some y:=⟨b[k],getElem?_eq_getElem (by omega)⟩;intros;refine gR 15 16 c78r5.eq_1 ?_;intros;refine dT ?_;refine pP 16 24 (by decide) ?_;refine sJ c78r6.eq_1 ?_;refine hA.y_ld hx rfl rfl ?_;rintro a1 ha1 cs ⟨rfl,-⟩;refine sI ?_;refine hB.y_ld hy rfl rfl ?_;rintro a2 ha2 cs ⟨rfl,-⟩;refine sJ @FQ ?_
   intros;refine gC ?_;refine gb (fun h4=>?_) (fun h4=>?_)
   ·intros;refine gR 0 0 c78r7.eq_1 ?_;intros;refine rW ?_;have:¬ a=b:=fun e=>by subst e;rw[hx]at hy;cases hy;simp at h4
    simp[this]
   ·intros;refine gR 25 26 c78r8.eq_1 ?_;intros;refine dT ?_;have hw3:IntKind.i64.wrap ((k:Int)+1)=(k:Int)+1:=by have:=hm;unfold maxLen at this;rw[eh] <;> omega
    refine eC ⟨⟨k+1,⟨by omega,?_⟩,?_⟩,?_⟩
    ·have hxy:x=y:=by simp at h4;exact Prod.ext h4.1 h4.2
     rw[List.take_add_one,List.take_add_one,hch,hx,hy,hxy]
    ·refine⟨(eJ @hw3),eE,eE,eE,rfl⟩
    ·refine sJ @hw3 ?_;omega
  ·have hkl:k=a.length:=by simp at ht;omega
   subst hkl;refine eg ?_;refine sI ?_;intros;refine gR 0 0 c78r9.eq_1 ?_;intros;refine rW ?_;have:a=b:=by
    rw[take_length,hlen,take_length]at hch;exact hch
   simp[this]
theorem F110:Fun Tryz.prog 110 57 v110 c110 o110:=Fun.mkA Tryz.func110 Tryz.ntmps110
theorem uh(l:List Ep)(v:Value)(G:JT)(hl:SEp G v l):FnS Tryz.prog 110 #[v] G (.int .i64 (iu l)):=by
 obtain⟨A,c,rfl,hc,hm,hA⟩:=hl;refine F110.fnS (by simp) (d7 ?_);unfold c110;intros;refine gR 0 0 c110r0.eq_1 ?_;intros;refine gR 0 0 c110r1.eq_1 ?_;intros;refine dT ?_;refine ej (fun e h=>∃ k:Nat,(k≤l.length∧Chk l k)∧e 7=.int .i64 k∧e 6=.int .i64 l.length∧e 5=.slice A l.length c∧e 0=.slice A l.length c∧e 2=.int .i64 0∧h.G=G∧h.D=[]) (fun e h=>l.length - iv (e 7)) ?_ ?_
 ·exact⟨0,⟨Nat.zero_le _,fun i x hi=>absurd hi (by omega)⟩,eE,eE,eE,eE,eE,rfl,rfl⟩
 ·rintro e ⟨G',L,D⟩ ⟨k,⟨hk,hch⟩,e7,e6,e5,e0,e2,hG,hD⟩;dsimp only at hG hD;subst hG hD;refine dW (h':=⟨G',[],[]⟩) (dY Ka) ?_;refine dX [0,2,5,6,7] ?_;refine sJ5 @e0 @e2 @e5 @e6 @e7 ?_;intros;refine gR 0 0 c110r2.eq_1 ?_;intros;refine gC ?_;have hw3:k < l.length→IntKind.i64.wrap ((k:Int)+1)=(k:Int)+1:=fun _=>by have:=hm;unfold maxLen at this;rw[eh] <;> omega
  refine gb (fun ht=>?_) (fun ht=>?_)
  ·have hkl:k < l.length:=by simpa using ht
   obtain⟨x,hx⟩:∃ x,l[k]?=some x:=⟨l[k],getElem?_eq_getElem (by omega)⟩;have hno:¬ (okE x=true∧∀ p,0 < k→l[k - 1]?=some p→p.1 < x.1∧p.2 < x.2)→iu l=1:=fun hn=>by
    rw[iu,if_neg];intro hc2;exact hn (hc2 k x hkl hx)
   intros;refine gR 9 12 c110r3.eq_1 ?_;refine hA.x_ld hx rfl rfl ?_;rintro a1 ha1 cs ⟨rfl,i1,i2⟩;refine sI ?_;intros;refine dT ?_;refine pP 13 55 (by decide) ?_;refine sJ c110r4.eq_1 ?_;refine gq (fun h1=>?_) (fun h1=>?_)
   ·refine sI ?_;intros;refine gC ?_;intros;refine gR 0 0 c110r5.eq_1 ?_;intros;refine rW ?_;rw[hno];rintro⟨h9,_⟩;simp[okE]at h9 h1;omega
   refine sI ?_;refine gq (fun h2=>?_) (fun h2=>?_)
   ·refine sI ?_;intros;refine gC ?_;intros;refine gR 0 0 c110r5.eq_1 ?_;intros;refine rW ?_;rw[hno];rintro⟨h9,_⟩;simp[okE]at h9 h2;omega
   refine sI ?_;refine gq (fun h3=>?_) (fun h3=>?_)
   ·refine sI ?_;intros;refine gC ?_;intros;refine gR 0 0 c110r5.eq_1 ?_;intros;refine rW ?_;rw[hno];rintro⟨h9,_⟩;simp[okE]at h9 h3;omega
   refine sI ?_;refine gq (fun h4=>?_) (fun h4=>?_)
   ·refine sI ?_;intros;refine gC ?_;intros;refine gR 0 0 c110r5.eq_1 ?_;intros;refine rW ?_;rw[hno];rintro⟨h9,_⟩;simp[okE]at h9 h4;omega
   refine sI ?_;have hok:okE x=true:=by simp at h1 h2 h3 h4;simp[okE];omega
   refine gq (fun h5=>?_) (fun h5=>?_)
   ·refine sI ?_;have hk0:0 < k:=by simp at h5;omega
    obtain⟨p,hp⟩:∃ p,l[k - 1]?=some p:=⟨l[k - 1],getElem?_eq_getElem (by omega)⟩;have hw:IntKind.i64.wrap ((k:Int) - 1)=((k - 1:Nat):Int):=by have:=hm;unfold maxLen at this;rw[eh] <;> omega
    refine hA.y_lf hp hw rfl (fun cs h=>by rw[h.1];rfl) fun a ha=>?_
    refine sI ?_;refine gq (fun h6=>?_) (fun h6=>?_)
    ·refine sI ?_;intros;refine gC ?_;intros;refine gR 0 0 c110r5.eq_1 ?_;intros;refine rW ?_;rw[hno];rintro⟨_,h9⟩;have:=h9 p hk0 hp;simp at h6;omega
    ·refine sI ?_;refine hA.y_lf hp hw rfl (fun cs h=>by rw[h.1];rfl) fun a ha=>?_
     refine sI ?_;intros;refine gC ?_;refine gb (fun h7=>?_) (fun h7=>?_)
     ·intros;refine gR 0 0 c110r5.eq_1 ?_;intros;refine rW ?_;rw[hno];rintro⟨_,h9⟩;have:=h9 p hk0 hp;simp at h7;omega
     ·intros;refine gR 56 57 c110r6.eq_1 ?_;intros;refine dT ?_;refine eC ⟨⟨k+1,⟨by omega,mN hch hx hok fun p' _ hp'=>?_⟩,?_⟩,?_⟩
      ·rw[hp]at hp';cases hp';simp at h6 h7;omega
      ·refine⟨(eJ (hw3 hkl)),eE,eE,eE,eE,rfl,rfl⟩
      ·(refine sJ (hw3 hkl) ?_);omega
   ·have hk0:k=0:=by simp at h5;omega
    refine sI ?_;intros;refine gC ?_;intros;refine gR 56 57 c110r6.eq_1 ?_;intros;refine dT ?_;refine eC ⟨⟨k+1,⟨by omega,mN hch hx hok fun p' h0 hp'=>absurd h0 (by omega)⟩,?_⟩,?_⟩
    ·refine⟨(eJ (hw3 hkl)),eE,eE,eE,eE,rfl,rfl⟩
    ·(refine sJ (hw3 hkl) ?_);omega
  ·have hkl:k=l.length:=by simp at ht;omega
   subst hkl;refine eg ?_;refine sI ?_;intros;refine gR 0 0 c110r7.eq_1 ?_;intros;refine rW ?_;rw[iu,if_pos hch]
theorem F50:Fun Tryz.prog 50 9 v50 c50 o50:=Fun.mkA Tryz.func50 Tryz.ntmps50
theorem F52:Fun Tryz.prog 52 22 v52 c52 o52:=Fun.mkA Tryz.func52 Tryz.ntmps52
theorem F60:Fun Tryz.prog 60 49 v60 c60 o60:=Fun.mkA Tryz.func60 Tryz.ntmps60
theorem wX(n:Int)(G:JT):FnS Tryz.prog 50 #[.int .i64 n] G (.bool (idI n)):=by
 refine F50.fnS (by simp) (d7 ?_);unfold c50;intros;refine gR 0 0 c50r0.eq_1 ?_;intros;refine gR 3 9 c50r1.eq_1 ?_;refine gdD (fun h=>?_) (fun h=>?_)
 ·refine sI ?_;intros;refine rW ?_;rw[idI,decide_eq_true (show 0≤n from h),Bool.true_and]
 ·refine sI ?_;intros;refine rW ?_;rw[idI,decide_eq_false (show ¬ 0≤n from h),Bool.false_and]
def fdR(l:List Rp)(n:Int):Int:=match atR l n with
 | some k=>(k:Int)
 | none=>-1
theorem AD:∀ {l:List Rp} {k:Nat} {r:Rp} {n:Int},(∀ x∈l.take k,x.id≠n)→l[k]?=some r→r.id=n→atR l n=some k
 | x :: l,0,r,n,_,hr,hid=>by
  cases hr;rw[atR,if_pos hid]
 | x :: l,k+1,r,n,h,hr,hid=>by
  rw[atR,if_neg (h x (.head _)),AD (l:=l) (k:=k) (fun y hy=>h y (.tail _ hy)) hr hid];rfl
theorem AH:∀ {l:List Rp} {n:Int},(∀ x∈l,x.id≠n)→atR l n=none
 | [],_,_=>rfl
 | x :: l,n,h=>by
  rw[atR,if_neg (h x (.head _)),AH fun y hy=>h y (.tail _ hy)];rfl
theorem oI{l:List Rp}{n:Int}:fdR l n < 0↔n∉gz l:=by
 unfold fdR;cases h:atR l n with
 | none =>
  refine⟨fun _ hm=>?_,fun _=>by show(-1:Int) < 0;decide⟩;obtain⟨k,r,h1,-⟩:=ml hm;rw[h]at h1;cases h1
 | some k =>
  obtain⟨r,h1,h2⟩:=iU h;refine⟨fun h=>by have h:(k:Int) < 0:=h;omega,fun hn=>absurd (List.mem_map.2 ⟨r,mem_of_getElem? h1,h2⟩) hn⟩
theorem pA(p:Pt)(n:Int)(cs:JU)(G:JT)(hp:PE G p cs):FnS Tryz.prog 52 #[.agg cs.toArray,.int .i64 n] G (.int .i64 (fdR p.reps n)):=by
 obtain⟨A,c,B,d,rfl,hv1,⟨A0,c0,he,hc,hm,hB⟩,hI⟩:=hp;cases he;refine F52.fnS (by simp) (d7 ?_);unfold c52 eH;intros;refine gR 0 0 c52r0.eq_1 ?_;intros;refine dT ?_;intros;refine gR 0 0 c52r1.eq_1 ?_;intros;refine dT ?_
 refine ej (fun e h=>∃ k:Nat,(k≤p.reps.length∧∀ x∈p.reps.take k,x.id≠n)∧e 5=.int .i64 k∧e 1=.int .i64 n∧h=⟨G,[.reg 2 [.int .i64 p.epoch,.int .i64 p.leader,.int .i64 p.least,.slice A p.isr.length c,.slice B p.reps.length d]],[]⟩) (fun e h=>p.reps.length - iv (e 5)) ?_ ?_
 ·exact⟨0,⟨Nat.zero_le _,by simp⟩,eE,eE,rfl⟩
 rintro e h ⟨k,⟨hk,hall⟩,e5,e1,rfl⟩;refine dX [5,1] ?_;refine sJ2 @e5 @e1 ?_;intros;refine gR 6 10 c52r2.eq_1 ?_;intros;refine gC ?_;refine gb (fun k1=>?_) (fun k1=>?_)
 ·have k1:k < p.reps.length:=by have:=Kb k1;omega
  have hw:=eY k d (by omega) hm;obtain⟨x,hx⟩:∃ s,p.reps[k]?=some s:=⟨p.reps[k],getElem?_eq_getElem (by omega)⟩;intros;refine gN ?_;intros;refine gR 14 20 c52r3.eq_1 ?_;refine hB.x_lf (k:=k) (u:=.int .i64 x.id) hx rfl rfl (fun cs h=>by obtain⟨_,_,_,_,rfl,-⟩:=h;rfl) fun a1 ha1=>?_
  refine sI ?_;intros;refine gC ?_;refine gbD (fun k2=>?_) (fun k2=>?_)
  ·intros;refine gR 21 22 c52r4.eq_1 ?_;intros;refine rW ?_;rw[fdR,AD hall hx k2]
  ·intros;refine gN ?_;intros;refine gR2 11 13 c52r5.eq_1 @hw ?_;intros;refine dT ?_;refine eC ⟨⟨k+1,⟨by omega,fun y hy=>?_⟩,eE,eE,rfl⟩,?_⟩
   ·rw[eG hx]at hy;rcases List.mem_append.1 hy with h | h
    ·exact hall y h
    ·simp at h;rw[h];exact k2
   ·refine sI ?_;omega
 ·have k1:k=p.reps.length:=by have:=Kc k1;omega
  subst k1;rw[take_length]at hall;intros;refine gN ?_;refine eg ?_;refine sI ?_;intros;refine gR 0 0 c52r6.eq_1 ?_;intros;refine rW ?_;rw[fdR,AH hall]
theorem Fb(r:Rp)(cs:JU)(G:JT)(hr:RE G r cs)(hsm:smR r):FnD Tryz.prog 60 #[.agg cs.toArray] G (fun _ v=>v=.bool (dB (okR r))):=by
 have hr0:=hr;obtain⟨hb,hm,he⟩:=hsm;obtain⟨A,c,B,d,rfl,h1,h2,⟨h3,h4⟩,h5,h6⟩:=hr;have hl:LE G r.log (eM r.log A c):=⟨A,c,rfl,h1,h3,h4⟩;have hchk:=oz r.log _ G hl hb;have hrec:=Dm r.log _ G hl hb hm;have hend:=yW r.log _ G hl hb;have hcE:=uh r.eps _ G h2;refine F60.fnD (by simp) (d7 ?_);unfold c60;unfold fL;unfold eM at hchk hrec hend
 have hno:∀ (fr:J0) (e:Env) (L:JW),¬ okR r→go none Tryz.prog 49 v60.1 v60.2 (fB o60 fun v h=>v=.bool (dB (okR r))) (Td.s ((SC.reg false c60r2).seq .ret) :: fr) e ⟨G,L,[]⟩:=fun fr e L hn=>by
  intros;refine gR 0 0 c60r2.eq_1 ?_;intros;refine rW ?_;rw[DT hn]
 intros;refine gR 0 0 c60r0.eq_1 ?_;intros;try refine dU ?_
 intros;refine gR 6 24 c60r1.eq_1 ?_;refine fK (wX r.id _ _ _) ?_;refine gd (fun k1=>?_) (fun k1=>?_)
 ·have k1:idI r.id=false:=by simpa using k1
  refine sI ?_;intros;refine gC ?_;exact hno _ _ _ fun h=>by have:=h.1.1;rw[k1]at this;cases this
 have k1:idI r.id=true:=by simpa using k1
 refine sI ?_;refine fK (hcE _ _) ?_;refine gd (fun k2=>?_) (fun k2=>?_)
 ·have k2:=Kb k2;refine sI ?_;intros;refine gC ?_;exact hno _ _ _ fun h=>k2 h.1.2.1
 have k2:iu r.eps=0:=by simpa using k2
 refine sI ?_;refine gdD (fun k3=>?_) (fun k3=>?_)
 ·refine sI ?_;intros;refine gC ?_;exact hno _ _ _ fun h=>by have:=h.1.2.2.1;omega
 refine sI ?_;intros;refine gC ?_;refine gbD (fun k4=>?_) (fun k4=>?_)
 ·exact hno _ _ _ fun h=>by have:=h.1.2.2.2;omega
 intros;refine gN ?_;intros;try refine dU ?_
 intros;refine gR 26 27 c60r3.eq_1 ?_;intros;refine gC ?_;refine gb (fun k5=>?_) (fun k5=>?_)
 ·have k5:r.up=false:=by simpa using k5
  have hlr:nO r=(jc r.log).1:=by rw[nO,if_neg (by rw[k5];simp)]
  have hiff:okR r↔gj (nO r)=0:=⟨fun h=>h.2.1,fun h=>⟨⟨k1,k2,by omega,by omega⟩,h,fun h=>by rw[k5]at h;cases h⟩⟩;intros;try refine dU ?_
  intros;refine gR 28 34 c60r4.eq_1 ?_;refine(hrec _ _).mono ?_;rintro v h' ⟨G1,rfl,hg1,cs,rfl,hle⟩;have hchk1:=oz _ _ G1 hle (xd hb hm).1;rw[← hlr]at hchk1 hle;obtain⟨A1,c1,rfl,-⟩:=hle;unfold eM at hchk1 ⊢;refine sI ?_;intros;try refine dU ?_
  intros;refine gR 34 37 c60r5.eq_1 ?_;refine fK (hchk1 _ _) ?_;intros;refine rW ?_;by_cases k6:gj (nO r)=0
  ·rw[Fw (hiff.2 k6),k6];rfl
  ·rw[DT fun h=>k6 (hiff.1 h),decide_eq_false k6]
 have k5:r.up=true:=by simpa using k5
 have hlr:nO r=r.log:=by rw[nO,if_pos k5]
 have hiff:okR r↔(gj r.log=0∧r.high≤fD r.log):=⟨fun h=>⟨by rw[← hlr];exact h.2.1,h.2.2 k5⟩,fun h=>⟨⟨k1,k2,by omega,by omega⟩,by rw[hlr];exact h.1,fun _=>h.2⟩⟩;intros;refine gN ?_;intros;try refine dU ?_
 intros;refine dT ?_;refine ly _ J9 (by decide) ?_;refine sJ c60r6.eq_1 ?_;refine fK (hchk _ _) ?_;refine gxD (fun k6=>?_) (fun k6=>?_)
 ·refine sI ?_;refine fK (hend _ _) ?_;intros;refine rW ?_;by_cases k7:r.high≤fD r.log
  ·rw[Fw (hiff.2 ⟨k6,k7⟩),decide_eq_true k7]
  ·rw[DT fun h=>k7 (hiff.1 h).2,decide_eq_false k7]
 ·refine sI ?_;intros;refine rW ?_;rw[DT fun h=>k6 (hiff.1 h).1]
def Gl(l:List Rp)(k:Nat):Prop:=∀ i x,i < k→l[i]?=some x→okR x∧∀ q,0 < i→l[i - 1]?=some q→q.id < x.id
theorem sN{l:List Rp}:(Gl l l.length∧l≠[])↔((∀ r∈l,okR r)∧fV (gz l)):=by
 rw[← jH];constructor
 ·rintro⟨h,h0⟩;refine⟨fun r hr=>?_,fun i x hi hx=>?_,fun e=>h0 (List.map_eq_nil_iff.1 e)⟩
  ·obtain⟨i,hi⟩:=List.mem_iff_getElem?.1 hr;exact(h i r (List.getElem?_eq_some_iff.1 hi).1 hi).1
  ·rw[gz,List.getElem?_map]at hx;obtain⟨r,hr,rfl⟩:=Option.map_eq_some_iff.1 hx;obtain⟨h1,h2⟩:=h i r (List.getElem?_eq_some_iff.1 hr).1 hr;refine⟨h1.1.1,fun p h3 hp=>?_⟩;rw[gz,List.getElem?_map]at hp;obtain⟨q,hq,rfl⟩:=Option.map_eq_some_iff.1 hp;exact h2 q h3 hq
 ·rintro⟨h1,h2,h0⟩;refine⟨fun i x hi hx=>⟨h1 x (mem_of_getElem? hx),fun q h3 hq=>?_⟩,fun e=>h0 (by rw[e];rfl)⟩;exact(h2 i x.id (by rw[gz,List.length_map];exact hi) (by rw[gz,List.getElem?_map,hx];rfl)).2 q.id h3 (by rw[gz,List.getElem?_map,hq];rfl)
theorem F19:Fun Tryz.prog 19 133 v19 c19 o19:=Fun.mkA Tryz.func19 Tryz.ntmps19
theorem oK(p:Pt)(cs:JU)(G:JT)(hp:PE G p cs)(hsm:smP p):FnD Tryz.prog 19 #[.agg cs.toArray] G (fun _ v=>v=.int .i64 (fI p)):=by
 have hp0:=hp;obtain⟨A,c,B,d,rfl,⟨A0,c0,he,hc,hm,hA⟩,⟨B0,d0,he2,hd,hmd,hB⟩,hI⟩:=hp;cases he;cases he2;refine F19.fnD (by simp) (d7 ?_);unfold c19;unfold eH at hp0 ⊢;have hno:∀ (fr:J0) (e:Env) (h:H),¬ okP p→go none Tryz.prog 133 v19.1 v19.2 (fB o19 fun v h=>v=.int .i64 (fI p)) (Td.s ((SC.reg false c19r2).seq .ret) :: fr) e h:=fun fr e h hn=>by
  intros;refine gR 0 0 c19r2.eq_1 ?_;intros;refine rW ?_;rw[jb (hn)]
 intros;refine gR 0 0 c19r0.eq_1 ?_;intros;try refine dU ?_
 intros;try refine dU ?_
 intros;refine gR 7 40 c19r1.eq_1 ?_;refine fK (wX _ _ _ _) ?_;refine gd (fun k1=>?_) (fun k1=>?_)
 ·have k1:idI p.epoch=false:=by simpa using k1
  refine sI ?_;intros;refine gC ?_;exact hno _ _ _ fun h=>by rw[h.1.1]at k1;cases k1
 have k1:idI p.epoch=true:=by simpa using k1
 refine sI ?_;refine gdD (fun k2=>?_) (fun k2=>?_)
 ·refine sI ?_;intros;refine gC ?_;exact hno _ _ _ fun h=>h.1.2.1.1 (by have:p.reps=[]:=List.eq_nil_of_length_eq_zero (by omega);rw[this];rfl)
 refine sI ?_;refine gdD (fun k3=>?_) (fun k3=>?_)
 ·refine sI ?_;intros;refine gC ?_;exact hno _ _ _ fun h=>by have:=h.1.2.2.1;omega
 refine sI ?_;refine gdD (fun k4=>?_) (fun k4=>?_)
 ·refine sI ?_;intros;refine gC ?_;exact hno _ _ _ fun h=>by have:=h.1.2.2.2.1;omega
 refine sI ?_;refine gdD (fun k5=>?_) (fun k5=>?_)
 ·refine sI ?_;intros;refine gC ?_;exact hno _ _ _ fun h=>by have:=h.1.2.2.2.1;omega
 refine sI ?_;intros;refine gC ?_;refine gb (fun k6=>?_) (fun k6=>?_)
 ·have k6:=Kb k6;exact hno _ _ _ fun h=>h.2.1.1.1 (List.eq_nil_of_length_eq_zero (by omega))
 have k6:p.isr≠[]:=fun h=>by have:=Kc k6;rw[h]at this;exact this rfl
 have hne:p.reps≠[]:=fun h=>by rw[h]at k2;simp at k2
 clear hno;intros;refine gN ?_;intros;try refine dU ?_
 refine eK (fun e h=>∃ G',Gle G G'∧Gl p.reps p.reps.length∧h=⟨G',[.reg 1 [.int .i64 p.epoch,.int .i64 p.leader,.int .i64 p.least,.slice A p.isr.length c,.slice B p.reps.length d]],[]⟩) ?_ ?_
 ·intros;try refine dU ?_
  intros;refine gR 0 0 c19r3.eq_1 ?_;intros;refine dT ?_;refine ej (fun e h=>∃ (k:Nat) (G':JT),(k≤p.reps.length∧Gl p.reps k)∧Gle G G'∧e 3=.int .i64 k∧h=⟨G',[.reg 1 [.int .i64 p.epoch,.int .i64 p.leader,.int .i64 p.least,.slice A p.isr.length c,.slice B p.reps.length d]],[]⟩) (fun e h=>p.reps.length - iv (e 3)) ?_ ?_
  ·exact⟨0,G,⟨Nat.zero_le _,fun i x hi=>absurd hi (by omega)⟩,.refl _,eE,rfl⟩
  rintro e h ⟨k,G',⟨hk,hr⟩,hg,e3,rfl⟩;refine dX [3] ?_;refine sJ @e3 ?_;intros;refine gR 41 45 c19r4.eq_1 ?_;intros;refine gC ?_;refine gb (fun ht=>?_) (fun ht=>?_)
  ·have ht:k < p.reps.length:=by have:=Kb ht;omega
   have hw:=eY k d (by omega) hmd;obtain⟨x,hx⟩:∃ s,p.reps[k]?=some s:=⟨p.reps[k],getElem?_eq_getElem (by omega)⟩;have hno:∀ (fr:J0) (e:Env) (h:H),¬ (okR x∧∀ q,0 < k→p.reps[k - 1]?=some q→q.id < x.id)→go none Tryz.prog 133 v19.1 v19.2 (fB o19 fun v h=>v=.int .i64 (fI p)) (Td.s ((SC.reg false c19r6).seq .ret) :: fr) e h:=fun fr e h hn=>by
    intros;refine gR 0 0 c19r6.eq_1 ?_;intros;refine rW ?_;rw[jb (fun h=>hn ((sN.2 ⟨h.1.2.2.2.2,h.1.2.1⟩).1 k x ht hx))]
   intros;refine gN ?_;intros;try refine dU ?_
   have hBg:=hB.le (E':=RE G') hg fun _ _ h=>RE.le hg h
   intros;refine dT ?_;refine ly _ J9 (by decide) ?_;refine sJ c19r5.eq_1 ?_;refine hBg.y_ld hx rfl rfl ?_;rintro a1 ha1 cs1 hre1;have hrp:=Fb x cs1 G' hre1 (hsm.1 x (mem_of_getElem? hx));obtain⟨A5,c5,B5,d5,rfl,-⟩:=hre1;unfold fL at hrp ⊢;refine sI ?_;refine(hrp _ _).mono ?_;rintro v h' ⟨G2,rfl,hg2,rfl⟩;refine⟨iZ hg2,?_⟩;refine sI ?_
   have hnx:okR x→(∀ q,0 < k→p.reps[k - 1]?=some q→q.id < x.id)→Gl p.reps (k+1):=fun h1 h2 i y hi hy=>by
    by_cases hik:i=k
    ·subst hik;rw[hx]at hy;cases hy;exact⟨h1,h2⟩
    ·exact hr i y (by omega) hy
   refine gx (fun k1=>?_) (fun k1=>?_)
   ·have k1:¬ okR x:=fun h=>by rw[Fw h]at k1;cases k1
    refine sI ?_;intros;refine gC ?_;exact hno _ _ _ fun h=>k1 h.1
   have k1:okR x:=AT.1 (by simpa using k1);refine sI ?_;refine gx (fun k2=>?_) (fun k2=>?_)
   ·have k2:0 < k:=by have:=Kb k2;omega
    have hw1:IntKind.i64.wrap ((k:Int) - 1)=(k:Int) - 1:=by unfold maxLen at hmd;rw[eh] <;> omega
    obtain⟨q,hq⟩:∃ s,p.reps[k - 1]?=some s:=⟨p.reps[k - 1],getElem?_eq_getElem (by omega)⟩;refine sJ @hw1 ?_;refine hBg.y_lf (k:=k - 1) (u:=.int .i64 q.id) hq (by omega) rfl (fun cs h=>by obtain⟨_,_,_,_,rfl,-⟩:=h;rfl) fun a2 ha2=>?_
    refine sI ?_;refine hBg.y_lf (k:=k) (u:=.int .i64 x.id) hx rfl rfl (fun cs h=>by obtain⟨_,_,_,_,rfl,-⟩:=h;rfl) fun a3 ha3=>?_
    refine sI ?_;intros;refine gC ?_;refine gbD (fun k3=>?_) (fun k3=>?_)
    ·exact hno _ _ _ fun h=>by have:=h.2 q k2 hq;omega
    intros;refine gN ?_;intros;refine gR2 46 48 c19r7.eq_1 @hw ?_;intros;refine dT ?_;refine eC ⟨⟨k+1,G2,⟨by omega,hnx k1 fun q' _ hq'=>by rw[hq]at hq';cases hq';omega⟩,hg.trans hg2,eE,rfl⟩,?_⟩;refine sI ?_;omega
   ·have k2:k=0:=by have:=Kc k2;omega
    refine sI ?_;intros;refine gC ?_;intros;refine gN ?_;intros;refine gR2 46 48 c19r7.eq_1 @hw ?_;intros;refine dT ?_;refine eC ⟨⟨k+1,G2,⟨by omega,hnx k1 fun q' h0 _=>absurd h0 (by omega)⟩,hg.trans hg2,eE,rfl⟩,?_⟩;refine sI ?_;omega
  ·have ht:k=p.reps.length:=by have:=Kc ht;omega
   subst ht;intros;refine gN ?_;refine eg ?_;refine sI ?_;exact eC ⟨G',hg,hr,rfl⟩
 rintro e h ⟨G1,hg1,hrN,rfl⟩;refine dX [] ?_;intros;have hokr:=sN.1 ⟨hrN,hne⟩;have hp1:=hp0.le hg1;have hA:=hA.le (E':=IE) hg1 Kd;have hB:=hB.le (E':=RE G1) hg1 fun _ _ h=>RE.le hg1 h
 intros;try refine dU ?_
 refine eK (fun e h=>(fV p.isr∧∀ n∈p.isr,n∈gz p.reps)∧h=⟨G1,[.reg 1 [.int .i64 p.epoch,.int .i64 p.leader,.int .i64 p.least,.slice A p.isr.length c,.slice B p.reps.length d]],[]⟩) ?_ ?_
 ·intros;try refine dU ?_
  intros;refine gR 0 0 c19r8.eq_1 ?_;intros;refine dT ?_;refine ej (fun e h=>∃ k:Nat,(k≤p.isr.length∧∀ i x,i < k→p.isr[i]?=some x→x∈gz p.reps∧∀ q,0 < i→p.isr[i - 1]?=some q→q < x)∧e 4=.int .i64 k∧h=⟨G1,[.reg 1 [.int .i64 p.epoch,.int .i64 p.leader,.int .i64 p.least,.slice A p.isr.length c,.slice B p.reps.length d]],[]⟩) (fun e h=>p.isr.length - iv (e 4)) ?_ ?_
  ·exact⟨0,⟨Nat.zero_le _,fun i x hi=>absurd hi (by omega)⟩,eE,rfl⟩
  rintro e h ⟨k,⟨hk,hr⟩,e4,rfl⟩;refine dX [4] ?_;refine sJ @e4 ?_;intros;refine gR 75 79 c19r9.eq_1 ?_;intros;refine gC ?_;refine gb (fun ht=>?_) (fun ht=>?_)
  ·have ht:k < p.isr.length:=by have:=Kb ht;omega
   have hw:=eY k c (by omega) hm;obtain⟨x,hx⟩:∃ s,p.isr[k]?=some s:=⟨p.isr[k],getElem?_eq_getElem (by omega)⟩;have hno:∀ (fr:J0) (e:Env) (h:H),¬ (x∈gz p.reps∧∀ q,0 < k→p.isr[k - 1]?=some q→q < x)→go none Tryz.prog 133 v19.1 v19.2 (fB o19 fun v h=>v=.int .i64 (fI p)) (Td.s ((SC.reg false c19r11).seq .ret) :: fr) e h:=fun fr e h hn=>by
    intros;refine gR 0 0 c19r11.eq_1 ?_;intros;refine rW ?_;rw[jb (fun h=>hn ⟨h.2.1.2 x (mem_of_getElem? hx),((jH.2 h.2.1.1).1 k x ht hx).2⟩)]
   have hnx:x∈gz p.reps→(∀ q,0 < k→p.isr[k - 1]?=some q→q < x)→∀ i y,i < k+1→p.isr[i]?=some y→y∈gz p.reps∧∀ q,0 < i→p.isr[i - 1]?=some q→q < y:=fun h1 h2 i y hi hy=>by
    by_cases hik:i=k
    ·subst hik;rw[hx]at hy;cases hy;exact⟨h1,h2⟩
    ·exact hr i y (by omega) hy
   intros;refine gN ?_;intros;try refine dU ?_
   intros;refine dT ?_;refine ly _ J9 (by decide) ?_;refine sJ c19r10.eq_1 ?_;refine hA.y_l1 hx rfl rfl ?_;rintro a1 ha1 u1 ⟨hu,-⟩;cases hu;refine sI ?_;refine fK (pA p x _ G1 hp1 _ _) ?_;refine gx (fun k1=>?_) (fun k1=>?_)
   ·have k1:=oI.1 (Kb k1);refine sI ?_;intros;refine gC ?_;exact hno _ _ _ fun h=>k1 h.1
   have k1:x∈gz p.reps:=Decidable.byContradiction fun h=>Kc k1 (oI.2 h)
   refine sI ?_;refine gx (fun k2=>?_) (fun k2=>?_)
   ·have k2:0 < k:=by have:=Kb k2;omega
    have hw1:IntKind.i64.wrap ((k:Int) - 1)=(k:Int) - 1:=by unfold maxLen at hm;rw[eh] <;> omega
    obtain⟨q,hq⟩:∃ s,p.isr[k - 1]?=some s:=⟨p.isr[k - 1],getElem?_eq_getElem (by omega)⟩;refine sJ @hw1 ?_;refine hA.y_l1 hq (by omega) rfl ?_;rintro a2 ha2 u2 ⟨hu,-⟩;cases hu;refine sI ?_;refine hA.y_l1 hx rfl rfl ?_;rintro a3 ha3 u3 ⟨hu,-⟩;cases hu;refine sI ?_;intros;refine gC ?_;refine gbD (fun k3=>?_) (fun k3=>?_)
    ·exact hno _ _ _ fun h=>by have:=h.2 q k2 hq;omega
    intros;refine gN ?_;intros;refine gR2 80 82 c19r12.eq_1 @hw ?_;intros;refine dT ?_;refine eC ⟨⟨k+1,⟨by omega,hnx k1 fun q' _ hq'=>by rw[hq]at hq';cases hq';omega⟩,eE,rfl⟩,?_⟩;refine sI ?_;omega
   ·have k2:k=0:=by have:=Kc k2;omega
    refine sI ?_;intros;refine gC ?_;intros;refine gN ?_;intros;refine gR2 80 82 c19r12.eq_1 @hw ?_;intros;refine dT ?_;refine eC ⟨⟨k+1,⟨by omega,hnx k1 fun q' h0 _=>absurd h0 (by omega)⟩,eE,rfl⟩,?_⟩;refine sI ?_;omega
  ·have ht:k=p.isr.length:=by have:=Kc ht;omega
   subst ht;intros;refine gN ?_;refine eg ?_;refine sI ?_;refine eC ⟨⟨jH.1 ⟨fun i x hi hx=>⟨?_,(hr i x hi hx).2⟩,k6⟩,fun n hn=>?_⟩,rfl⟩
   ·obtain⟨r,hr2,rfl⟩:=List.mem_map.1 (hr i x hi hx).1;exact(hokr.1 r hr2).1.1
   ·obtain⟨i,hi⟩:=List.mem_iff_getElem?.1 hn;exact(hr i n (List.getElem?_eq_some_iff.1 hi).1 hi).1
 rintro e h ⟨hisr,rfl⟩;refine dX [] ?_;intros;have hyes:(p.leader=-1∨(∃ r∈p.reps,r.id=p.leader∧r.up=true)∧p.leader∈p.isr)→fI p=0:=fun h=>kr ⟨⟨k1,hokr.2,by omega,by omega,hokr.1⟩,hisr,h⟩
 intros;try refine dU ?_
 intros;try refine dU ?_
 intros;refine gR 109 110 c19r13.eq_1 ?_;intros;refine gC ?_;refine gbD (fun k7=>?_) (fun k7=>?_)
 ·intros;refine gR 0 0 c19r14.eq_1 ?_;intros;refine rW ?_;rw[hyes (.inl k7)]
 have hno:∀ (fr:J0) (e:Env) (h:H),¬ ((∃ r∈p.reps,r.id=p.leader∧r.up=true)∧p.leader∈p.isr)→go none Tryz.prog 133 v19.1 v19.2 (fB o19 fun v h=>v=.int .i64 (fI p)) (Td.s ((SC.reg false c19r17).seq .ret) :: fr) e h:=fun fr e h hn=>by
  intros;refine gR 0 0 c19r17.eq_1 ?_;intros;refine rW ?_;rw[jb (fun h=>by rcases h.2.2 with h | h;exact k7 h;exact hn h)]
 intros;refine gN ?_;intros;try refine dU ?_
 intros;refine gR 111 115 c19r15.eq_1 ?_;refine fK (pA p p.leader _ G1 hp1 _ _) ?_;intros;try refine dU ?_
 intros;try refine dU ?_
 intros;refine gR 115 132 c19r16.eq_1 ?_;refine gd (fun k8=>?_) (fun k8=>?_)
 ·have k8:=oI.1 (Kb k8);refine sI ?_;intros;refine gC ?_;exact hno _ _ _ fun h=>by obtain⟨⟨r,h1,h2,-⟩,-⟩:=h;exact k8 (List.mem_map.2 ⟨r,h1,h2⟩)
 have k8:p.leader∈gz p.reps:=Decidable.byContradiction fun h=>Kc k8 (oI.2 h)
 obtain⟨j,r,hj,hr,hid⟩:=ml k8;have hfd:fdR p.reps p.leader=(j:Int):=by rw[fdR,hj]
 refine sI ?_;refine hB.x_lf (k:=j) (u:=.bool r.up) hr hfd rfl (fun cs h=>by obtain⟨_,_,_,_,rfl,-⟩:=h;rfl) fun a1 ha1=>?_
 refine sI ?_;refine gd (fun k9=>?_) (fun k9=>?_)
 ·have k9:r.up=false:=by simpa using k9
  refine sI ?_;intros;refine gC ?_;refine hno _ _ _ fun h=>?_
  obtain⟨⟨r',h1,h2,h3⟩,-⟩:=h;obtain⟨i,hi⟩:=List.mem_iff_getElem?.1 h1;have h4:=ob hokr.2.2.2 hi;rw[h2,hj]at h4;cases h4;rw[hr]at hi;cases hi;rw[k9]at h3;cases h3
 have k9:r.up=true:=by simpa using k9
 refine sI ?_;refine fK (Ay p p.leader _ G1 hp1 _ _) ?_;intros;refine gC ?_;refine gb (fun k10=>?_) (fun k10=>?_)
 ·have k10:p.leader∉p.isr:=by simpa using k10
  exact hno _ _ _ fun h=>k10 h.2
 have k10:p.leader∈p.isr:=by simpa using k10
 intros;refine gN ?_;intros;refine gR 0 0 c19r18.eq_1 ?_;intros;refine rW ?_;rw[hyes (.inr ⟨⟨r,mem_of_getElem? hr,hid,k9⟩,k10⟩)]
theorem F16:Fun Tryz.prog 16 24 v16 c16 o16:=Fun.mkA Tryz.func16 Tryz.ntmps16
theorem F21:Fun Tryz.prog 21 47 v21 c21 o21:=Fun.mkA Tryz.func21 Tryz.ntmps21
theorem zY(p:Pt)(cs:JU)(G:JT)(hp:PE G p cs)(hsm:smP p):FnD Tryz.prog 16 #[.agg cs.toArray] G (LgR (kL p)):=by
 have hchk:=oK p cs G hp hsm;have hp0:=hp;obtain⟨A,c,B,d,rfl,hv1,hv2,hI⟩:=hp;refine F16.fnD (by simp) (d7 ?_);unfold c16;unfold eH at hp0 hchk ⊢;intros;refine gR 0 0 c16r0.eq_1 ?_;intros;try refine dU ?_
 intros;refine gR 5 7 c16r1.eq_1 ?_;refine(hchk _ _).mono ?_;rintro v h' ⟨G1,rfl,hg1,rfl⟩;refine sI ?_;intros;try refine dU ?_
 intros;try refine dU ?_
 intros;refine gR 7 8 c16r2.eq_1 ?_;intros;refine gC ?_;refine gb (fun k1=>?_) (fun k1=>?_)
 ·have k1:=Kb k1;intros;refine gR 9 11 c16r3.eq_1 ?_;intros;refine rW ?_;rw[kL,if_pos k1];exact gB
 have k1:fI p=0:=by simpa using k1
 have hok:=nH k1;intros;refine gN ?_;intros;try refine dU ?_
 intros;try refine dU ?_
 intros;refine gR 12 13 c16r4.eq_1 ?_;intros;refine gC ?_;refine gbD (fun k2=>?_) (fun k2=>?_)
 ·intros;refine gR 14 15 c16r5.eq_1 ?_;intros;refine rW ?_;rw[kL,if_neg (fun h=>h k1),if_pos k2];exact gB
 obtain⟨k,r,hk,hr,-⟩:=nf hok k2;have hld:kL p=(r.log,0):=by
  rw[kL,if_neg (fun h=>h k1),if_neg k2,hk];dsimp only;rw[hr];rfl
 have hfd:fdR p.reps p.leader=(k:Int):=by rw[fdR,hk]
 have hkl:=(List.getElem?_eq_some_iff.1 hr).1;rw[hld];intros;refine gN ?_;intros;try refine dU ?_
 intros;refine dT ?_;refine zt _ J9 (by decide) ?_;refine sJ c16r6.eq_1 ?_;refine fK (pA p p.leader _ G1 (hp0.le hg1) _ _) ?_;rw[hfd];refine sI ?_;refine I9 (SlR.le hg1 hv2) hr rfl (by omega) rfl ?_;rintro a1 ha1 A1 c1 hle;have hle0:=hle;unfold eM at hle0 ⊢;refine sJ c16r7.eq_1 ?_;intros;refine rW ?_;exact⟨_,rfl,hle0⟩
def hiF(is:J6)(m:Int)(r:Rp):Int:=if r.id∈is then max m r.high else m
theorem Bd(is:J6)(b:Int):∀ (l:List Rp) (m:Int),l.foldl (hiF is) m≤b↔m≤b∧∀ r∈l,r.id∈is→r.high≤b
 | [],m=>by simp
 | r :: l,m=>by
  rw[List.foldl_cons,Bd is b l];unfold hiF;constructor
  ·rintro⟨h1,h2⟩;split at h1
   ·refine⟨by omega,fun x hx hi=>?_⟩;rcases List.mem_cons.1 hx with rfl | hx
    ·omega
    ·exact h2 x hx hi
   ·rename_i hn;refine⟨h1,fun x hx hi=>?_⟩;rcases List.mem_cons.1 hx with rfl | hx
    ·exact absurd hi hn
    ·exact h2 x hx hi
  ·rintro⟨h1,h2⟩;refine⟨?_,fun x hx=>h2 x (.tail _ hx)⟩;split
   ·have:=h2 r (.head _) (by assumption);omega
   ·exact h1
theorem xI(v:Int→Int)(b:Int):∀ (l:J6) (m:Int),l.foldl (fun m n=>max m (v n)) m≤b↔m≤b∧∀ n∈l,v n≤b
 | [],m=>by simp
 | n :: l,m=>by
  rw[List.foldl_cons,xI v b l];constructor
  ·rintro⟨h1,h2⟩;refine⟨by omega,fun x hx=>?_⟩;rcases List.mem_cons.1 hx with rfl | hx
   ·omega
   ·exact h2 x hx
  ·rintro⟨h1,h2⟩;exact⟨by have:=h2 n (.head _);omega,fun x hx=>h2 x (.tail _ hx)⟩
theorem yo{p:Pt}(h:okP p)(h0:¬ 0≤p.leader):kK p=p.reps.foldl (hiF p.isr) 0:=by
 have hv:∀ {k:Nat} {r:Rp},p.reps[k]?=some r→(match atR p.reps r.id with | some k=>(p.reps[k]?.map (·.high)).getD 0 | none=>0)=r.high:=fun hr=>by
  rw[ob h.1.2.1.2.2 hr];dsimp only;rw[hr];rfl
 rw[kK,if_neg (fun hh=>hh (kr h)),if_neg h0];have key:∀ b:Int,p.isr.foldl (fun m n=>max m (match atR p.reps n with | some k=>(p.reps[k]?.map (·.high)).getD 0 | none=>0)) 0≤b↔p.reps.foldl (hiF p.isr) 0≤b:=fun b=>by
  rw[xI (fun n=>match atR p.reps n with | some k=>(p.reps[k]?.map (·.high)).getD 0 | none=>0),Bd]
  constructor
  ·rintro⟨h1,h2⟩;refine⟨h1,fun r hr hi=>?_⟩;obtain⟨k,hk⟩:=List.mem_iff_getElem?.1 hr;have:=h2 r.id hi
   rwa [hv hk]at this
  ·rintro⟨h1,h2⟩;refine⟨h1,fun n hn=>?_⟩;obtain⟨k,r,hk,hr,hid⟩:=ml (h.2.1.2 n hn);have:=hv hr;rw[hid]at this;rw[this];exact h2 r (mem_of_getElem? hr) (by rw[hid];exact hn)
 exact Int.le_antisymm ((key _).2 (Int.le_refl _)) ((key _).1 (Int.le_refl _))
theorem ze(p:Pt)(cs:JU)(G:JT)(hp:PE G p cs)(hsm:smP p):FnD Tryz.prog 21 #[.agg cs.toArray] G (fun _ v=>v=.int .i64 (kK p)):=by
 have hchk:=oK p cs G hp hsm;have hp0:=hp;obtain⟨A,c,B,d,rfl,hv1,hv2,hI⟩:=hp;refine F21.fnD (by simp) (d7 ?_);unfold c21;unfold eH at hp0 hchk ⊢;intros;refine gR 0 0 c21r0.eq_1 ?_;intros;try refine dU ?_
 intros;try refine dU ?_
 intros;refine gR 5 7 c21r1.eq_1 ?_;refine(hchk _ _).mono ?_;rintro v h' ⟨G1,rfl,hg1,rfl⟩;refine sI ?_;intros;refine gC ?_;refine gb (fun k1=>?_) (fun k1=>?_)
 ·have k1:=Kb k1;intros;refine gR 0 0 c21r2.eq_1 ?_;intros;refine rW ?_;rw[kK,if_pos k1]
 have k1:fI p=0:=by simpa using k1
 have hok:=nH k1;have hp1:=hp0.le hg1;obtain⟨_,_,he,hd,hmd,hB⟩:=SlR.le hg1 hv2;cases he;intros;refine gN ?_;intros;try refine dU ?_
 intros;refine gR 0 0 c21r3.eq_1 ?_;intros;try refine dU ?_
 intros;try refine dU ?_
 intros;refine gR 0 0 c21r4.eq_1 ?_;intros;refine dT ?_;refine ej (fun e h=>∃ k:Nat,(k≤p.reps.length∧∀ r∈p.reps.take k,r.id≠p.leader)∧e 4=.int .i64 k∧e 3=.int .i64 ((p.reps.take k).foldl (hiF p.isr) 0)∧h=⟨G1,[.reg 1 [.int .i64 p.epoch,.int .i64 p.leader,.int .i64 p.least,.slice A p.isr.length c,.slice B p.reps.length d]],[]⟩) (fun e h=>p.reps.length - iv (e 4)) ?_ ?_
 ·exact⟨0,⟨Nat.zero_le _,by simp⟩,eE,by(try simp -implicitDefEqProofs only[mz,mE,push_cast,Nat.reduceBEq,Nat.reduceAdd,Nat.reduceSub,Nat.reduceMul,Nat.reduceLT,Nat.reduceLeDiff,Nat.reduceEqDiff,reduceIte,Bool.not_true,Bool.not_false,true_and,and_true,Option.map_some,Option.bind_some,Int.toNat_natCast,List.take_zero,List.foldl_nil]),rfl⟩
 rintro e h ⟨k,⟨hk,hall⟩,e4,e3,rfl⟩;refine dX [3,4] ?_;refine sJ2 @e3 @e4 ?_;intros;refine gR 8 12 c21r5.eq_1 ?_;intros;refine gC ?_;refine gb (fun k2=>?_) (fun k2=>?_)
 ·have k2:k < p.reps.length:=by have:=Kb k2;omega
  have hw:=eY k d (by omega) hmd;obtain⟨x,hx⟩:∃ s,p.reps[k]?=some s:=⟨p.reps[k],getElem?_eq_getElem (by omega)⟩;have hnx:(p.reps.take (k+1)).foldl (hiF p.isr) 0=hiF p.isr ((p.reps.take k).foldl (hiF p.isr) 0) x:=by rw[eG hx,List.foldl_append];rfl
  intros;refine gN ?_;intros;try refine dU ?_
  intros;refine dT ?_;refine pP 16 23 (by decide) ?_;refine sJ c21r6.eq_1 ?_;refine hB.y_lf (k:=k) (u:=.int .i64 x.id) hx rfl rfl (fun cs h=>by obtain⟨_,_,_,_,rfl,-⟩:=h;rfl) fun a1 ha1=>?_
  refine sI ?_;intros;refine gC ?_;refine gbD (fun k3=>?_) (fun k3=>?_)
  ·intros;refine gR 25 30 c21r7.eq_1 ?_;refine hB.x_lf (k:=k) (u:=.int .i64 x.high) hx rfl rfl (fun cs h=>by obtain⟨_,_,_,_,rfl,-⟩:=h;rfl) fun a2 ha2=>?_
   refine sI ?_;intros;refine rW ?_;have h0:0≤p.leader:=by
    have:=(hok.1.2.2.2.2 x (mem_of_getElem? hx)).1.1;rw[k3]at this;simp[idI]at this;exact this.1
   rw[kK,if_neg (fun h=>h k1),if_pos h0,← k3,ob hok.1.2.1.2.2 hx];dsimp only;rw[hx];rfl
  have hall2:∀ r∈p.reps.take (k+1),r.id≠p.leader:=fun y hy=>by
   rw[eG hx]at hy;rcases List.mem_append.1 hy with h | h
   ·exact hall y h
   ·simp at h;rw[h];exact k3
  intros;refine gN ?_;intros;try refine dU ?_
  intros;refine dT ?_;refine Ei (by decide) ?_;refine sJ c21r8.eq_1 ?_;refine hB.y_lf (k:=k) (u:=.int .i64 x.id) hx rfl rfl (fun cs h=>by obtain⟨_,_,_,_,rfl,-⟩:=h;rfl) fun a2 ha2=>?_
  refine sJ c21r9.eq_1 ?_;refine fK (Ay p x.id _ G1 hp1 _ _) ?_;intros;refine gC ?_;refine gbD (fun k4=>?_) (fun k4=>?_)
  ·intros;refine gR 38 46 c21r10.eq_1 ?_;refine hB.x_lf (k:=k) (u:=.int .i64 x.high) hx rfl rfl (fun cs h=>by obtain⟨_,_,_,_,rfl,-⟩:=h;rfl) fun a2 ha2=>?_
   refine sI ?_;intros;refine gN ?_;intros;refine gR2 13 15 c21r11.eq_1 @hw ?_;intros;refine dT ?_;refine eC ⟨⟨k+1,⟨by omega,hall2⟩,eE,?_,rfl⟩,?_⟩
   ·rw[hnx,hiF,if_pos k4]
    (refine sI ?_;try with_reducible exact True.intro)
   refine sI ?_;omega
  ·intros;refine gN ?_;intros;refine gR2 13 15 c21r11.eq_1 @hw ?_;intros;refine dT ?_;refine eC ⟨⟨k+1,⟨by omega,hall2⟩,eE,?_,rfl⟩,?_⟩
   ·rw[hnx,hiF,if_neg k4]
    (refine sI ?_;try with_reducible exact True.intro)
   refine sI ?_;omega
 ·have k2:k=p.reps.length:=by have:=Kc k2;omega
  subst k2;rw[take_length]at hall;intros;refine gN ?_;refine eg ?_;refine sI ?_;intros;refine gR 46 47 c21r12.eq_1 ?_;intros;refine rW ?_;have h0:¬ 0≤p.leader:=fun h0=>by
   obtain⟨k,r,-,hr,hid⟩:=nf hok (by omega);exact hall r (mem_of_getElem? hr) hid
  rw[yo hok h0,take_length]
theorem F14:Fun Tryz.prog 14 95 v14 c14 o14:=Fun.mkA Tryz.func14 Tryz.ntmps14
theorem yE(l:J6)(limit least:Int)(v:Value)(G:JT)(hl:SlV G IE 1 v l)(hi:I64 least):FnD Tryz.prog 14 #[v,.int .i64 limit,.int .i64 least] G (PtR (rm l limit least)):=by
 have hl0:=hl;obtain⟨A,c,rfl,hc,hmx,hA⟩:=hl;refine F14.fnD (by simp) (d7 ?_);unfold c14;have hnp1:((pL limit 0).2=0∧fV l∧l.length≤5∧1≤least∧least≤(l.length:Int))→rm l limit least=(⟨1,l.headD 0,least,l,l.map (newR (pL limit 0).1)⟩,0):=fun h=>by unfold rm;rw[if_pos h];rfl
 have hnp0:¬ ((pL limit 0).2=0∧fV l∧l.length≤5∧1≤least∧least≤(l.length:Int))→rm l limit least=(j5,1):=fun h=>by unfold rm;rw[if_neg h]
 have hnew:=fun G=>zO limit 0 G
 generalize pL limit 0=nl at *;obtain⟨L0,e0⟩:=nl;dsimp only at hnp0 hnp1;intros;refine gR 0 0 c14r0.eq_1 ?_
 have hno:¬ (e0=0∧fV l∧l.length≤5∧1≤least∧least≤(l.length:Int))→∀ (fr:J0) (e:Env),go none Tryz.prog 95 v14.1 v14.2 (fB o14 fun v h=>PtR (rm l limit least) h.G v) (Td.s ((SC.reg false c14r2).seq .ret) :: fr) e ⟨G,[.reg 6 [.int .i64 0,.int .i64 0,.int .i64 0,.slice none 0 0,.slice none 0 0]],[]⟩:=fun hn fr e=>by
  intros;refine gR 30 31 c14r2.eq_1 ?_;intros;refine ea (je rfl ?_);rw[hnp0 hn];exact nD _ _
 intros;try refine dU ?_
 intros;try refine dU ?_
 intros;refine gR 12 29 c14r1.eq_1 ?_;refine gdD (fun k2=>?_) (fun k2=>?_)
 ·refine sI ?_;intros;refine gC ?_;exact hno (fun h=>by have:=List.length_pos_iff.2 h.2.1.1;omega) _ _
 refine sI ?_;refine gdD (fun k3=>?_) (fun k3=>?_)
 ·refine sI ?_;intros;refine gC ?_;exact hno (fun h=>by have:=h.2.2.1;omega) _ _
 refine sI ?_;refine gdD (fun k4=>?_) (fun k4=>?_)
 ·refine sI ?_;intros;refine gC ?_;exact hno (fun h=>by have:=h.2.2.2.1;omega) _ _
 refine sI ?_;intros;refine gC ?_;refine gbD (fun k5=>?_) (fun k5=>?_)
 ·exact hno (fun h=>by have:=h.2.2.2.2;omega) _ _
 clear hno;obtain⟨y0,hy0⟩:∃ y,l[0]?=some y:=⟨l[0]'(by omega),getElem?_eq_getElem _⟩;have hne:l≠[]:=fun h=>by rw[h]at hy0;cases hy0
 have hhd:l.headD 0=y0:=by
  cases l with
  | nil=>cases hy0
  | cons a l=>cases hy0;rfl
 have hy0i:I64 y0:=by
  obtain⟨a,u,_,hu,_⟩:=hA.at1 hy0 [] [];exact hu.2
 rw[hhd]at hnp1;intros;refine gN ?_;intros;try refine dU ?_
 intros;refine gR 31 36 c14r3.eq_1 ?_;refine hA.x_l1 hy0 rfl rfl ?_;rintro a1 ha1 u1 ⟨hu,-⟩;cases hu;refine sI ?_;intros;refine dW (ew none 3 1) ?_;refine dW (ew none 50 7) ?_;have hml:∀ k,((l.take k).map (newR L0)).length≤l.length:=fun k=>by simp;omega
 have hmk:∀ k,k≤l.length→((l.take k).map (newR L0)).length=k:=fun k hk=>by simp;omega
 have hmi:∀ k,k≤l.length→(l.take k).length=k:=fun k hk=>by simp;omega
 intros;try refine dU ?_
 refine eK (fun e h=>∃ (G':JT) (u1 u7:Value) (ys zc:JU),(DL l l.length∧e0=0∧Gle G G')∧(Cells IE 1 l ys∧Cells (RE G') 7 (l.map (newR L0)) zc)∧h=⟨G',[.row u7 50 7 l.length zc,.row u1 3 1 l.length ys,.reg 8 [.int .i64 1,.int .i64 y0,.int .i64 least,u1,u7],.reg 6 [.int .i64 0,.int .i64 0,.int .i64 0,.slice none 0 0,.slice none 0 0]],[]⟩) ?_ ?_
 ·intros;try refine dU ?_
  intros;refine gR 0 0 c14r4.eq_1 ?_;intros;refine dT ?_
  refine ej (fun e h=>∃ (k:Nat) (G':JT) (u1 u7:Value) (ys zc:JU),(k≤l.length∧DL l k∧(0 < k→e0=0)∧Gle G G')∧(Cells IE 1 (l.take k) ys∧Cells (RE G') 7 ((l.take k).map (newR L0)) zc)∧e 9=.int .i64 k∧e 0=.slice A l.length c∧e 1=.int .i64 limit∧h=⟨G',[.row u7 50 7 ((l.take k).map (newR L0)).length zc,.row u1 3 1 (l.take k).length ys,.reg 8 [.int .i64 1,.int .i64 y0,.int .i64 least,u1,u7],.reg 6 [.int .i64 0,.int .i64 0,.int .i64 0,.slice none 0 0,.slice none 0 0]],[]⟩) (fun e h=>l.length - iv (e 9)) ?_ ?_
  ·exact⟨0,G,.slice none 0 0,.slice none 0 0,[],[],⟨Nat.zero_le _,fun i x hi=>absurd hi (by omega),fun h=>absurd h (by omega),.refl _⟩,⟨.nil,.nil⟩,eE,eE,eE,rfl⟩
  rintro e h ⟨k,G',u1,u7,ys,zc,⟨hk,hr,he0,hg⟩,⟨hys,hzc⟩,e9,e0',e1,rfl⟩;refine dX [0,1,9] ?_;refine sJ3 @e0' @e1 @e9 ?_;intros;refine gR 36 39 c14r5.eq_1 ?_;intros;refine gC ?_;refine gb (fun ht=>?_) (fun ht=>?_)
  ·have ht:k < l.length:=by have:=Kb ht;omega
   have hw:=eY k c (by omega) hmx;obtain⟨n,hn⟩:∃ s,l[k]?=some s:=⟨l[k],getElem?_eq_getElem (by omega)⟩;have htk:(l.take (k+1)).map (newR L0)=(l.take k).map (newR L0)++[newR L0 n]:=by rw[eG hn,List.map_append];rfl
   have hti:l.take (k+1)=l.take k++[n]:=eG hn;have hkl:=hml k;have hki:=hmi k hk;intros;refine gN ?_;intros;try refine dU ?_
   intros;refine gR 42 47 c14r6.eq_1 ?_;refine(hnew G' _ _).mono ?_;rintro r h' ⟨G2,rfl,hg2,cs,rfl,hle⟩;dsimp only at hle;obtain⟨A3,c3,rfl,hs3,hlim⟩:=hle;have hA2:=hA.le (E':=IE) (hg.trans hg2) Kd;have hzc:Cells (RE G2) 7 ((l.take k).map (newR L0)) zc:=eU hzc fun _ _ h=>RE.le hg2 h
   have hni:I64 n:=by
    obtain⟨a,u,_,hu,_⟩:=hA.at1 hn [] [];exact hu.2
   unfold eM;refine sI ?_
   have hno:∀ (fr:J0) (e:Env),¬ (e0=0∧idI n=true∧∀ p,0 < k→l[k - 1]?=some p→p < n)→go none Tryz.prog 95 v14.1 v14.2 (fB o14 fun v h=>PtR (rm l limit least) h.G v) (Td.s ((SC.reg false c14r8).seq .ret) :: fr) e ⟨G2,[.reg 10 [.int .i64 L0.limit,.int .i64 L0.start,.slice A3 L0.segs.length c3],.row u7 50 7 ((l.take k).map (newR L0)).length zc,.row u1 3 1 (l.take k).length ys,.reg 8 [.int .i64 1,.int .i64 y0,.int .i64 least,u1,u7],.reg 6 [.int .i64 0,.int .i64 0,.int .i64 0,.slice none 0 0,.slice none 0 0]],[]⟩:=fun fr e hn'=>by
    intros;refine gR 73 74 c14r8.eq_1 ?_;intros;refine ea (je rfl ?_);rw[hnp0 fun h=>hn' ⟨h.1,(jH.2 h.2.1).1 k n ht hn⟩];exact nD _ _
   have hnx:idI n=true→(∀ p,0 < k→l[k - 1]?=some p→p < n)→DL l (k+1):=fun h1 h2 i y hi hy=>by
    by_cases hik:i=k
    ·subst hik;rw[hn]at hy;cases hy;exact⟨h1,h2⟩
    ·exact hr i y (by omega) hy
   intros;try refine dU ?_
   refine eK (fun e h=>(e0=0∧DL l (k+1))∧e 0=.slice A l.length c∧e 1=.int .i64 limit∧e 9=.int .i64 k∧h=⟨G2,[.reg 10 [.int .i64 L0.limit,.int .i64 L0.start,.slice A3 L0.segs.length c3],.row u7 50 7 ((l.take k).map (newR L0)).length zc,.row u1 3 1 (l.take k).length ys,.reg 8 [.int .i64 1,.int .i64 y0,.int .i64 least,u1,u7],.reg 6 [.int .i64 0,.int .i64 0,.int .i64 0,.slice none 0 0,.slice none 0 0]],[]⟩) ?_ ?_
   ·intros;try refine dU ?_
    intros;refine dT ?_;refine ly _ J9 (by decide) ?_;refine sJ c14r7.eq_1 ?_;refine gx (fun k6=>?_) (fun k6=>?_)
    ·have k6:=Kb k6;refine sI ?_;intros;refine gC ?_;exact hno _ _ fun h=>k6 h.1
    have k6:e0=0:=by simpa using k6
    refine sI ?_;refine hA2.y_l1 hn rfl rfl ?_;rintro a2 ha2 u2 ⟨hu,-⟩;cases hu;refine sI ?_;refine fK (wX n _ _ _) ?_;refine gx (fun k7=>?_) (fun k7=>?_)
    ·have k7:idI n=false:=by simpa using k7
     refine sI ?_;intros;refine gC ?_;exact hno _ _ fun h=>by rw[k7]at h;cases h.2.1
    have k7:idI n=true:=by simpa using k7
    refine sI ?_;refine gx (fun k8=>?_) (fun k8=>?_)
    ·have k8:0 < k:=by have:=Kb k8;omega
     have hw1:IntKind.i64.wrap ((k:Int) - 1)=(k:Int) - 1:=by unfold maxLen at hmx;rw[eh] <;> omega
     obtain⟨q,hq⟩:∃ s,l[k - 1]?=some s:=⟨l[k - 1],getElem?_eq_getElem (by omega)⟩;refine sJ @hw1 ?_;refine hA2.y_l1 hq (by omega) rfl ?_;rintro a4 ha4 u4 ⟨hu,-⟩;cases hu;refine sI ?_;refine hA2.y_l1 hn rfl rfl ?_;rintro a5 ha5 u5 ⟨hu,-⟩;cases hu;refine sI ?_;intros;refine gC ?_;refine gbD (fun k9=>?_) (fun k9=>?_)
     ·exact hno _ _ fun h=>by have:=h.2.2 q k8 hq;omega
     intros;refine gN ?_;exact eC ⟨⟨k6,hnx k7 fun q' _ hq'=>by rw[hq]at hq';cases hq';omega⟩,eE,eE,eE,rfl⟩
    ·have k8:k=0:=by have:=Kc k8;omega
     refine sI ?_;intros;refine gC ?_;intros;refine gN ?_;exact eC ⟨⟨k6,hnx k7 fun q' h0 _=>absurd h0 (by omega)⟩,eE,eE,eE,rfl⟩
   rintro e h ⟨⟨k6,hris⟩,e0',e1,e9,rfl⟩;refine dX [0,1,9] ?_;refine sJ3 @e0' @e1 @e9 ?_;intros;intros;try refine dU ?_
   intros;refine dT ?_;refine zt _ (.cons_cons _ (.cons_cons _ (.cons _ J9))) (by decide) ?_;refine sJ c14r9.eq_1 ?_;refine hA2.y_l1 hn rfl rfl ?_;rintro a6 ha6 u6 ⟨hu,-⟩;cases hu;refine sI ?_;intro bv hbv;refine⟨ed Kd (.cons _ (.cons_cons _ (.cons_cons _ (.cons _ J9)))),?_⟩;refine sI ?_
   refine ts (L1:=[_,_]) (L2:=[_,_]) (E:=IE) (x:=n) rfl ⟨rfl,hni⟩ rfl (by simp[Value.oneCell']) hys (by omega) (by omega) fun A' c' ys' hys'=>?_
   rw[← hti]at hys' ⊢;refine sI ?_;refine⟨ed Kd (.cons _ (.cons_cons _ (.cons_cons _ (.cons _ J9)))),?_⟩;refine sJ c14r10.eq_1 ?_;intros;refine dW (dY (.cons _ J9)) ?_;have hre:RE G2 (newR L0 n) [.int .i64 n,.bool true,.int .i64 L0.limit,.int .i64 L0.start,.slice A3 L0.segs.length c3,.slice none 0 0,.int .i64 0]:=⟨A3,c3,none,0,rfl,hs3,slN,hlim,hni,iH⟩
   intros;refine dT ?_;refine zt _ (.cons_cons _ (.cons _ J9)) (by decide) ?_;refine sJ c14r11.eq_1 ?_;refine hA2.y_l1 hn rfl rfl ?_;rintro a7 ha7 u7 ⟨hu,-⟩;cases hu;refine sI ?_;intro bk hbk;refine⟨ed Kd (.cons _ (.cons_cons _ (.cons _ J9))),?_⟩;refine sI ?_
   refine ts (L1:=[_]) (L2:=[_,_,_]) (E:=RE G2) (x:=newR L0 n) rfl hre rfl (by simp[Value.oneCell']) hzc (by omega) (by omega) fun A5 c5 zc' hzc'=>?_
   rw[← htk]at hzc' ⊢;refine sI ?_;refine⟨ed Kd (.cons _ (.cons_cons _ (.cons _ J9))),?_⟩;refine sJ c14r12.eq_1 ?_;intros;refine gN ?_;refine dW (dY (.cons _ (.cons _ J9))) ?_;intros;refine gR2 40 42 c14r13.eq_1 @hw ?_;intros;refine dT ?_;refine eC ⟨⟨k+1,G2,_,_,ys',zc',⟨by omega,hris,fun _=>k6,hg.trans hg2⟩,⟨hys',hzc'⟩,eE,eE,eE,rfl⟩,?_⟩;refine sI ?_;omega
  ·have ht:k=l.length:=by have:=Kc ht;omega
   subst ht;rw[take_length]at hys hzc ⊢;rw[List.length_map];intros;refine gN ?_;refine eg ?_;refine sI ?_;exact eC ⟨G',u1,u7,ys,zc,⟨hr,he0 (by omega),hg⟩,⟨hys,hzc⟩,rfl⟩
 rintro e h ⟨G',u1,u7,ys,zc,⟨hr,he0,hg⟩,⟨hys,hzc⟩,rfl⟩;refine dX [] ?_;intros;rw[hnp1 ⟨he0,jH.1 ⟨hr,hne⟩,by omega,by omega,by omega⟩];refine eI (ef [_] _ (by decide) hys) ?_;rintro h' ⟨G3,rfl,hg3,hv3⟩;have hzc3:Cells (RE G3) 7 (l.map (newR L0)) zc:=eU hzc fun _ _ h=>RE.le hg3 h
 have hlm:l.length=(l.map (newR L0)).length:=(List.length_map ..).symm;refine eI (ef [] _ (by decide) hzc3) ?_;rintro h' ⟨G4,rfl,hg4,hv4⟩;obtain⟨A4,c4,rfl,hc4,hm4,hA4⟩:=hv3;obtain⟨A5,c5,rfl,hc5,hm5,hA5⟩:=hv4;rw[List.length_map];intros;simp only[List.append_eq,List.nil_append];intros;refine gR 94 95 c14r14.eq_1 ?_;intros;refine rW ?_
 refine⟨_,rfl,A4,c4,A5,c5,?_,⟨A4,c4,rfl,hc4,hm4,hA4.le (E':=IE) hg4 Kd⟩,?_,show I64 1 from by unfold I64;decide,hy0i,hi⟩
 ·unfold eH;dsimp only;rw[List.length_map]
 ·show SlV G4 (RE G4) 7 (.slice A5 (l.map (newR L0)).length c5) (l.map (newR L0));exact⟨A5,c5,rfl,hc5,hm5,hA5.le Kd fun _ _ h=>RE.le hg4 h⟩
theorem dnn(n:Int):decide (n≠n)=false:=decide_eq_false fun h=>h rfl
theorem F28:Fun Tryz.prog 28 38 v28 c28 o28:=Fun.mkA Tryz.func28 Tryz.ntmps28
theorem F17:Fun Tryz.prog 17 81 v17 c17 o17:=Fun.mkA Tryz.func17 Tryz.ntmps17
theorem nn{α:Type}[DecidableEq α](x:α):decide (x=x)=true:=decide_eq_true rfl
theorem ub(a:Rp)(cs ds:JU)(G:JT)(ha:RE G a cs)(hb:RE G a ds):FnS Tryz.prog 28 #[.agg cs.toArray,.agg ds.toArray] G (.bool true):=by
 obtain⟨A1,c1,B1,d1,rfl,q1,q2,q3,q4⟩:=ha;obtain⟨A2,c2,B2,d2,rfl,t1,t2,t3,t4⟩:=hb;have h1:=zu a.log a.log (eM a.log A1 c1) (eM a.log A2 c2) G ⟨A1,c1,rfl,q1,q3⟩ ⟨A2,c2,rfl,t1,t3⟩;have h2:=yZ a.eps a.eps _ _ G q2 t2;rw[nn]at h1 h2;refine F28.fnS (by simp) (d7 ?_);unfold c28 fL;unfold eM at h1;intros;refine gR 0 0 c28r0.eq_1 ?_;have hu:(a.up == a.up)=true:=by simp
 intros;refine gr 6 38 ?_;refine sJ3 c28r1.eq_1 @nn @hu ?_;refine sJ @nn ?_;refine fK (h1 _ _) ?_;refine fK (h2 _ _) ?_;intros;refine rV ?_;simp only[push_cast,Nat.reduceBEq]
theorem yI(p:Pt)(cs ds:JU)(G:JT)(ha:PE G p cs)(hb:PE G p ds):FnS Tryz.prog 17 #[.agg cs.toArray,.agg ds.toArray] G (.bool true):=by
 obtain⟨A1,c1,B1,d1,rfl,q1,q2,-⟩:=ha;obtain⟨A2,c2,B2,d2,rfl,t1,t2,-⟩:=hb;obtain⟨_,_,he,hc1,hm1,hA1⟩:=q1;cases he;obtain⟨_,_,he,hc2,hm2,hA2⟩:=t1;cases he;obtain⟨_,_,he,hd1,hn1,hB1⟩:=q2;cases he;obtain⟨_,_,he,hd2,hn2,hB2⟩:=t2;cases he;refine F17.fnS (by simp) (d7 ?_);unfold c17 eH;intros;refine gR 0 0 c17r0.eq_1 ?_;intros;refine gR2 8 43 c17r1.eq_1 @dnn ?_;intros;refine gC ?_;intros;refine gN ?_
 intros;try refine dU ?_
 refine eK (fun e h=>h=⟨G,[.reg 3 [.int .i64 p.epoch,.int .i64 p.leader,.int .i64 p.least,.slice A2 p.isr.length c2,.slice B2 p.reps.length d2],.reg 2 [.int .i64 p.epoch,.int .i64 p.leader,.int .i64 p.least,.slice A1 p.isr.length c1,.slice B1 p.reps.length d1]],[]⟩) ?_ ?_
 ·intros;try refine dU ?_
  intros;refine gR 0 0 c17r3.eq_1 ?_;intros;refine dT ?_
  refine ej (fun e h=>∃ k:Nat,k≤p.isr.length∧e 5=.int .i64 k∧h=⟨G,[.reg 3 [.int .i64 p.epoch,.int .i64 p.leader,.int .i64 p.least,.slice A2 p.isr.length c2,.slice B2 p.reps.length d2],.reg 2 [.int .i64 p.epoch,.int .i64 p.leader,.int .i64 p.least,.slice A1 p.isr.length c1,.slice B1 p.reps.length d1]],[]⟩) (fun e h=>p.isr.length - iv (e 5)) ?_ ?_
  ·exact⟨0,Nat.zero_le _,eE,rfl⟩
  rintro e h ⟨k,hk,e5,rfl⟩;refine dX [5] ?_;refine sJ @e5 ?_;intros;refine gR 44 48 c17r4.eq_1 ?_;intros;refine gC ?_;refine gb (fun k2=>?_) (fun k2=>?_)
  ·have k2:k < p.isr.length:=by have:=Kb k2;omega
   have hw:=eY k c1 (by omega) hm1;obtain⟨s,hs⟩:∃ s,p.isr[k]?=some s:=⟨p.isr[k],getElem?_eq_getElem (by omega)⟩;intros;refine gN ?_;intros;refine dT ?_;refine pP 52 61 (by decide) ?_;refine sJ c17r5.eq_1 ?_;refine hA1.y_l1 hs rfl rfl ?_;rintro a1 ha1 u1 ⟨hu,-⟩;cases hu;refine sI ?_;refine hA2.y_l1 hs rfl rfl ?_;rintro a2 ha2 u2 ⟨hu,-⟩;cases hu;refine sJ @dnn ?_;intros;refine gC ?_
   intros;refine gN ?_;intros;refine gR2 49 51 c17r7.eq_1 @hw ?_;intros;refine dT ?_;refine eC ⟨⟨k+1,by omega,eE,rfl⟩,?_⟩;refine sI ?_;omega
  ·have k2:k=p.isr.length:=by have:=Kc k2;omega
   subst k2;intros;refine gN ?_;refine eg ?_;refine sI ?_;exact eC rfl
 rintro e h rfl;refine dX [] ?_;intros;intros;try refine dU ?_
 refine eK (fun e h=>h=⟨G,[.reg 3 [.int .i64 p.epoch,.int .i64 p.leader,.int .i64 p.least,.slice A2 p.isr.length c2,.slice B2 p.reps.length d2],.reg 2 [.int .i64 p.epoch,.int .i64 p.leader,.int .i64 p.least,.slice A1 p.isr.length c1,.slice B1 p.reps.length d1]],[]⟩) ?_ ?_
 ·intros;try refine dU ?_
  intros;refine gR 0 0 c17r8.eq_1 ?_;intros;refine dT ?_
  refine ej (fun e h=>∃ k:Nat,k≤p.reps.length∧e 6=.int .i64 k∧h=⟨G,[.reg 3 [.int .i64 p.epoch,.int .i64 p.leader,.int .i64 p.least,.slice A2 p.isr.length c2,.slice B2 p.reps.length d2],.reg 2 [.int .i64 p.epoch,.int .i64 p.leader,.int .i64 p.least,.slice A1 p.isr.length c1,.slice B1 p.reps.length d1]],[]⟩) (fun e h=>p.reps.length - iv (e 6)) ?_ ?_
  ·exact⟨0,Nat.zero_le _,eE,rfl⟩
  rintro e h ⟨k,hk,e6,rfl⟩;refine dX [6] ?_;refine sJ @e6 ?_;intros;refine gR 62 66 c17r9.eq_1 ?_;intros;refine gC ?_;refine gb (fun k2=>?_) (fun k2=>?_)
  ·have k2:k < p.reps.length:=by have:=Kb k2;omega
   have hw:=eY k d1 (by omega) hn1;obtain⟨s,hs⟩:∃ s,p.reps[k]?=some s:=⟨p.reps[k],getElem?_eq_getElem (by omega)⟩;intros;refine gN ?_;intros;refine dT ?_;refine ly _ J9 (by decide) ?_;refine sJ c17r10.eq_1 ?_;refine hB1.y_ld hs rfl rfl ?_;rintro a1 ha1 cs1 hre1;refine sI ?_;refine hB2.y_ld hs rfl rfl ?_;rintro a2 ha2 cs2 hre2;have hsm:=ub s cs1 cs2 G hre1 hre2;obtain⟨A5,c5,B5,d5,rfl,-⟩:=hre1
   obtain⟨A6,c6,B6,d6,rfl,-⟩:=hre2;unfold fL at hsm ⊢;refine sI ?_;refine fK (hsm _ _) ?_;intros;refine gC ?_;intros;refine gN ?_;intros;refine gR2 67 69 c17r12.eq_1 @hw ?_;intros;refine dT ?_;refine eC ⟨⟨k+1,by omega,eE,rfl⟩,?_⟩;refine sI ?_;omega
  ·have k2:k=p.reps.length:=by have:=Kc k2;omega
   subst k2;intros;refine gN ?_;refine eg ?_;refine sI ?_;exact eC rfl
 rintro e h rfl;refine dX [] ?_;intros;intros;refine gR 0 0 c17r13.eq_1 ?_;intros;refine rV ?_;simp only[push_cast,Nat.reduceBEq]
theorem F3:Fun Tryz.prog 3 98 v3 c3 o3:=Fun.mkH Tryz.func3 Tryz.ntmps3 (by kernel_rfl) (by kernel_rfl) s3 q3
theorem Ct{p:Pt}(h:smP p):smL (kL p).1.segs∧(kL p).1.segs.length≤1000000:=by
 have h0:smL gQ.segs∧gQ.segs.length≤1000000:=⟨fun s hs=>absurd hs (by simp[gQ]),by simp[gQ]⟩;unfold kL;split
 ·exact h0
 ·split
  ·exact h0
  ·dsimp only;split
   ·rename_i k hk;cases hr:p.reps[k]? with
    | none=>exact h0
    | some r =>
     have:=h.1 r (mem_of_getElem? hr);exact⟨this.1,Nat.le_trans this.2.1 (by decide)⟩
   ·exact h0
theorem qA(p:Pt)(l:J6)(limit least:Int)(cs:JU)(v:Value)(G:JT)(hp:PE G p cs)(hl:SlV G IE 1 v l)(hli:I64 limit)(hi:I64 least):FnS Tryz.prog 3 #[.agg cs.toArray,v,.int .i64 limit,.int .i64 least] G (.bool true):=by
 have hlive:=HL G;have hfew:=Bq p cs G hp;have hp0:=hp;have hl0:=hl;obtain⟨A,c,B,d,rfl,-⟩:=hp;obtain⟨A1,c1,rfl,-⟩:=hl;unfold eH at hp0 hfew ⊢;refine F3.fnS (by simp) (d7 ?_);unfold c3
 have hyes:∀ (fr:J0) (e:Env),e 9=.bool true→go none Tryz.prog 98 v3.1 v3.2 (fB o3 fun v x=>v=.bool true) (Td.s ((SC.reg false c3r3).seq .ret) :: fr) e ⟨G,[.reg 4 [.int .i64 p.epoch,.int .i64 p.leader,.int .i64 p.least,.slice A p.isr.length c,.slice B p.reps.length d]],[]⟩:=fun fr e e9=>by
  intros;refine gR2 27 28 c3r3.eq_1 @e9 ?_;intros;refine rV ?_;simp only[push_cast,Nat.reduceBEq]
 intros;refine gR 0 0 c3r0.eq_1 ?_;intros;refine gR 18 19 c3r1.eq_1 ?_;refine fK (hlive _ _) ?_;intros;try refine dU ?_
 intros;try refine dU ?_
 intros;refine gR 19 26 c3r2.eq_1 ?_;refine(hfew _ _).mono ?_;rintro r h' ⟨⟨b1,rfl,hb1⟩,rfl⟩;cases b1 with
 | false =>
  refine sI ?_;intros;refine gC ?_;exact hyes _ _ (eE)
 | true =>
 have hfw:=hb1 rfl;have hsm:=hfw.sm;refine sI ?_;intros;refine gC ?_;refine gb (fun k1=>?_) (fun k1=>?_)
 ·exact hyes _ _ (eE)
 have k1:l.length≤50:=by have:=Kc k1;omega
 clear hyes;intros;refine gN ?_;intros;try refine dU ?_
 intros;refine gR 28 35 c3r4.eq_1 ?_;refine(xf l limit least _ G hl0 (by omega) hi _ _).mono ?_;rintro r h' ⟨G1,rfl,hg1,cs1,rfl,hpe1⟩;have hnew:=yE l limit least _ G1 (hl0.le (E':=IE) hg1 Kd) hi;generalize rm l limit least=q at *;obtain⟨q,e1⟩:=q;dsimp only at hpe1 ⊢;have hpe10:=hpe1;obtain⟨A2,c2,B2,d2,rfl,-⟩:=hpe1;unfold eH at hpe10 ⊢;refine sI ?_;intros;try refine dU ?_
 intros;refine gR 35 42 c3r5.eq_1 ?_;refine(hnew _ _).mono ?_;rintro r h' ⟨G2,rfl,hg2,cs2,rfl,hpe2⟩;dsimp only at hpe2 ⊢;have hpe20:=hpe2;obtain⟨A3,c3,B3,d3,rfl,-⟩:=hpe2;unfold eH at hpe20 ⊢;refine sI ?_;intros;try refine dU ?_
 intros;refine gR 42 47 c3r6.eq_1 ?_;refine(wC p _ G2 (hp0.le (hg1.trans hg2)) hsm _ _).mono ?_;rintro r h' ⟨G3,rfl,hg3,cs3,rfl,hle3⟩;have hlead:=zY p _ G3 (hp0.le (hg1.trans (hg2.trans hg3))) hsm;have hls:=Ct hsm;generalize kL p=q4 at *;obtain⟨lg,e3⟩:=q4;dsimp only at hle3 hls ⊢;have hle30:=hle3;obtain⟨A4,c4,rfl,-⟩:=hle3;unfold eM at hle30 ⊢;refine sI ?_;intros;try refine dU ?_
 intros;refine gR 47 52 c3r7.eq_1 ?_;refine(hlead _ _).mono ?_;rintro r h' ⟨G4,rfl,hg4,cs4,rfl,hle4⟩;dsimp only at hle4 ⊢;have hle40:=hle4;obtain⟨A5,c5,rfl,-⟩:=hle4;unfold eM at hle40 ⊢;refine sI ?_;intros;try refine dU ?_
 have hg:=hg1.trans (hg2.trans (hg3.trans hg4));have hsame:=yI q _ _ G4 (hpe10.le (hg2.trans (hg3.trans hg4))) (hpe20.le (hg3.trans hg4));intros;refine dT ?_;refine ly _ J9 (by decide) ?_;refine sJ c3r8.eq_1 ?_;refine fK (hsame _ _) ?_;refine sJ @nn ?_;refine fK (jm p _ G4 (hp0.le hg) hsm _ _) ?_;refine(oK p _ G4 (hp0.le hg) hsm _ _).mono ?_;rintro v h' ⟨G5,rfl,hg5,rfl⟩;refine⟨iZ hg5,?_⟩
 refine sJ @nn ?_
 (refine fK (nu p _ G5 (hp0.le (hg.trans hg5)) hsm _ _) ?_)
 refine⟨iZ hg5,?_⟩;refine sI ?_;refine(ze p _ G5 (hp0.le (hg.trans hg5)) hsm _ _).mono ?_;rintro v h' ⟨G6,rfl,hg6,rfl⟩;have hg46:=hg5.trans hg6;refine⟨iZ hg46,?_⟩;refine sJ @nn ?_
 (refine fK (pq lg _ G6 (LE.le hg46 (LE.le hg4 hle30)) hls.1 hls.2 _ _) ?_)
 refine⟨iZ hg46,?_⟩;refine sI ?_;refine fK (pq lg _ G6 (LE.le hg46 hle40) hls.1 hls.2 _ _) ?_;refine⟨iZ hg46,?_⟩;refine sJ @nn ?_;intros;refine rV ?_;simp only[push_cast,Nat.reduceBEq]
end Go.Proofs.YtpmofpekcbghnaaGreat

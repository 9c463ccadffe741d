/- Parts of a proof, 27 texts in one file. No condition. -/
import Derived.Shelf.Spec.SlicesInsertGrow
import Derived.Test.YtpmofpekcbghnaaGreatM1
import Derived.Test.YtpmofpekcbghnaaGreatM2
import Derived.Test.YtpmofpekcbghnaaGreatM3
import Derived.Test.YtpmofpekcbghnaaGreatM4
import Derived.Test.YtpmofpekcbghnaaGreatM5
import Derived.Test.YtpmofpekcbghnaaGreatM6
import Derived.Test.YtpmofpekcbghnaaGreatM7
set_option linter.unusedSimpArgs false
set_option linter.unusedVariables false
namespace Go.Proofs.YtpmofpekcbghnaaGreat
open Go Go.Kx
theorem F51:Fun Tryz.prog 51 26 v51 c51 o51:=Fun.mkA Tryz.func51 Tryz.ntmps51
theorem F61:Fun Tryz.prog 61 4 v61 c61 o61:=Fun.mkA Tryz.func61 Tryz.ntmps61
theorem F111:Fun Tryz.prog 111 22 v111 c111 o111:=Fun.mkA Tryz.func111 Tryz.ntmps111
def PtL(p:Pt)(x:Nat)(A:Option Addr)(c:Nat)(B:Option Addr)(d:Nat)(ys zs:List Value):List Kx.Item:=[.blk x (dY p A c B d),.row (.slice B p.reps.length d) 50 7 p.reps.length zs,.row (.slice A p.isr.length c) 3 1 p.isr.length ys]
def PtG(G:Nat→Option Obj)(p:Pt)(x:Nat)(A:Option Addr)(c:Nat)(B:Option Addr)(d:Nat):Prop :=
 (∀ j u,(dY p A c B d)[j]?=some u→eT G ⟨x,j,none⟩=some u)∧SlV G IE 1 (.slice A p.isr.length c) p.isr∧SlV G (RE G) 7 (.slice B p.reps.length d) p.reps
theorem PtG.le{G G':Nat→Option Obj}(hg:Gle G G'){p:Pt}{x:Nat}{A:Option Addr}{c:Nat}{B:Option Addr}{d:Nat}(h:PtG G p x A c B d):PtG G' p x A c B d :=
 ⟨fun j u hu=>dJ hg (h.1 j u hu),h.2.1.le hg fun _ _ h=>h,SlR.le hg h.2.2⟩
theorem eg{p:Pt}{x:Nat}{A:Option Addr}{c:Nat}{B:Option Addr}{d:Nat}{ys zs:List Value}:dO (PtL p x A c B d ys zs):=dA (dw (dw dt))
theorem wn{p:Pt}{x:Nat}{A:Option Addr}{c:Nat}{B:Option Addr}{d:Nat}{ys zs:List Value}{G:Nat→Option Obj}{L:List Kx.Item}{D:List Nat}(hy:Cells IE 1 p.isr ys)(hz:Cells (RE G) 7 p.reps zs):
  Cd G (PtL p x A c B d ys zs) L D (fun G'=>PtG G' p x A c B d) :=
 jm (M1:=fun G'=>∀ j u,(dY p A c B d)[j]?=some u→eT G' (Addr.add ⟨x,0,none⟩ j)=some u) (fun L=>jg) fun G1 hg1 h1 =>
  jm (M1:=fun G'=>SlV G' (RE G1) 7 (.slice B p.reps.length d) p.reps) (fun L=>kn (by decide) (eG hz fun _ _ h=>RE.le hg1 h)) fun G2 hg2 h2 =>
   jm (M1:=fun G'=>SlV G' IE 1 (.slice A p.isr.length c) p.isr) (fun L=>kn (by decide) hy) fun G3 hg3 h3 =>
    ml ⟨fun j u hu=>by
     have:=dJ (hg2.trans hg3) (h1 j u hu)
     rwa [gA]at this,h3,h2.le hg3 fun _ _ h=>RE.le (hg2.trans hg3) h⟩
def qu(l:List Rp):Prop:=(fM l).Pairwise (· < ·)∧∀ r∈l,idI r.id=true
def ub(B:Option Addr):Option Nat→Option Addr
 | none=>none
 | some k=>B.map (·.add (k * 7))
theorem yg(p:Pt)(x:Nat)(A:Option Addr)(c:Nat)(B:Option Addr)(d:Nat)(n:Int)(G:Nat→Option Obj)(hp:PtG G p x A c B d)(hn:I64 n)(hid:qu p.reps):
  FnS Tryz.prog 51 #[.pointer (some ⟨x,0,none⟩),.int .i64 n] G (.pointer (ub B (atR p.reps n))):=by
 obtain⟨h1,h2,h3⟩:=hp;have hbs:=rz p.reps n _ G h3 hn hid.1 hid.2;obtain⟨B0,d0,he,hd0,hmx,hA⟩:=h3;cases he;refine F51.fnS (by simp) (dF ?_);unfold c51;intros;refine gr 0 0 ?_;refine sJ c51r0.eq_1 ?_;intros;refine gr 7 17 ?_;refine sJ c51r1.eq_1 ?_;refine⟨_,⟨_,rfl,.g (h1 4 _ rfl)⟩,?_⟩;refine sI ?_;refine(hbs _ _).mono ?_;rintro r h' ⟨⟨j,rfl,hj,hk⟩,rfl⟩;refine sI ?_;intros;try refine dv ?_
 intros;try refine dv ?_
 intros;refine gr 17 18 ?_;refine sJ c51r2.eq_1 ?_;intros;refine gc ?_;refine sI ?_;refine gb (fun k1=>?_) (fun k1=>?_)
 ·have k1:atR p.reps n=none:=by simpa using k1
  intros;refine gr 0 0 ?_;refine sJ c51r3.eq_1 ?_;intros;refine rV ?_;simp only[push_cast,Nat.reduceBEq];rw[k1];rfl
 ·obtain⟨k,hk1⟩:∃ k,atR p.reps n=some k:=Option.isSome_iff_exists.1 (by simpa using k1);have:=hk k hk1;subst this;obtain⟨r,hr,-⟩:=gW hk1;have hkl:=(List.getElem?_eq_some_iff.1 hr).1;obtain⟨a,cs,ha,-⟩:=hA j r hr;subst ha;intros;refine gN ?_;intros;refine gr 19 26 ?_;refine sJ c51r4.eq_1 ?_;refine⟨_,⟨_,rfl,.g (h1 4 _ rfl)⟩,?_⟩;refine sI ?_;refine⟨by omega,a,rfl,?_⟩;refine sI ?_
  intros;refine rV ?_;simp only[push_cast,Nat.reduceBEq];rw[hk1];rfl
def AtX(B:Option Addr)(l:List Rp)(_:Nat→Option Obj)(n:Int)(args:Array Value):Prop:=args=#[.pointer (ub B (atR l n))]
theorem lP(p:Pt)(x b:Nat)(A:Option Addr)(c:Nat)(B:Option Addr)(d:Nat)(G0:Nat→Option Obj)(hp:PtG G0 p x A c B d)(hid:qu p.reps)(hb:eT G0 ⟨b,0,none⟩=some (.pointer (some ⟨x,0,none⟩))):
  km Tryz.prog 111 #[.pointer (some ⟨b,0,none⟩)] p.isr (AtX B p.reps) G0:=by
 intro yl I Ix G L hG hn hI hIx hmo h0 hy L2 D;have hargs:(#[.func (.yield yl) #[] #[]]++#[.pointer (some ⟨b,0,none⟩)]:Array Value)=#[.func (.yield yl) #[] #[],.pointer (some ⟨b,0,none⟩)]:=rfl;rw[hargs];have hp:=hp.le hG;have hb:=dJ hG hb;obtain⟨A0,c0,he,hc0,hmx,hA⟩:=id hp.2.1;cases he
 refine(F111.calls (R:=fun _ h=>Gle G h.G∧(I p.isr.length h.G h.L∨∃ i,i < p.isr.length∧Ix i h.G h.L)) (by simp) hn (dF ?_) L2 D).mono ?_
 ·unfold c111;intros;refine gr 5 9 ?_;refine sJ c111r0.eq_1 ?_;refine⟨_,⟨_,rfl,.g hb⟩,?_⟩;refine sI ?_;refine⟨_,⟨_,rfl,.g (hp.1 3 _ rfl)⟩,?_⟩;refine sI ?_
  (intros;try refine du ?_)
  refine dW (fun e h=>∃ (t:Nat) (G':Nat→Option Obj) (L':List Kx.Item),(t≤p.isr.length∧Gle G G'∧dO L'∧I t G' L')∧e 11=.int .i64 t∧e 10=.int .i64 p.isr.length∧e 9=.slice A p.isr.length c∧e 0=.func (.yield yl) #[] #[]∧e 1=.pointer (some ⟨b,0,none⟩)∧h=⟨G',L',[]⟩) (fun e h=>p.isr.length - iv (e 11)) ?_ ?_
  ·exact⟨0,G,L,⟨Nat.zero_le _,.refl G,hn,h0⟩,eE,eE,eE,eE,eE,rfl⟩
  ·rintro e h ⟨t,G',L',⟨ht,hgg,hn',hI'⟩,e11,e10,e9,e0,e1,rfl⟩;refine dz [0,1,9,10,11] ?_;refine sJ5 @e0 @e1 @e9 @e10 @e11 ?_;intros;refine gr 0 0 ?_;refine sJ c111r1.eq_1 ?_;intros;refine gc ?_;refine sI ?_;refine gb (fun k1=>?_) (fun k1=>?_)
   ·have htl:t < p.isr.length:=by have:=of_decide_eq_true k1;omega
    have hw:=fz t c (by omega) hmx;obtain⟨n,hx⟩:∃ n,p.isr[t]?=some n:=⟨p.isr[t],List.getElem?_eq_getElem (by omega)⟩;have hb':=dJ hgg hb;have hp':=hp.le hgg;have hAg:=hA.le (E':=IE) hgg fun _ _ h=>h
    intros;refine gN ?_;intros;refine gr 13 15 ?_;refine sJ c111r2.eq_1 ?_;refine hAg.x_l1 hx rfl rfl ?_;rintro a1 ha1 u1 ⟨hu,hni⟩;cases hu;refine sI ?_;intros;refine gr 15 20 ?_;refine sJ c111r3.eq_1 ?_;refine⟨_,⟨_,rfl,.g hb'⟩,?_⟩;refine sI ?_;refine(yg p x A c B d n _ hp' hni hid _ _).mono ?_;rintro _ _ ⟨rfl,rfl⟩;refine sI ?_;refine .inr ⟨yl,rfl,?_⟩;refine(pY hy hx hgg rfl hI').mono ?_
    rintro v h' ⟨G2,L3,rfl,hg2,hn2,hr⟩;rcases hr with⟨rfl,hr⟩ | ⟨rfl,hr⟩
    ·refine sI ?_;intros;refine gc ?_;refine sI ?_;intros;refine gN ?_;intros;refine gr 21 22 ?_;refine sJ2 c111r4.eq_1 @hw ?_
     (intros;try refine du ?_)
     refine eh ⟨⟨t+1,G2,L3,⟨by omega,hgg.trans hg2,hn2,hr⟩,eE,eE,eE,eE,eE,rfl⟩,?_⟩;refine sI ?_;omega
    ·refine sI ?_;intros;refine gc ?_;refine sI ?_
     (intros;try refine du ?_)
     refine dC (dG L3 rfl (List.Sublist.refl _) hn2 ?_);exact⟨hgg.trans hg2,.inr ⟨t,htl,hr⟩⟩
   ·have htl:t=p.isr.length:=by have:=of_decide_eq_false k1;omega
    subst htl;refine dT ?_;refine sI ?_;refine fN ?_;exact⟨[],rfl,⟨G',L',[]⟩,dD (List.Sublist.refl _),hn',hgg,.inl hI'⟩
 ·rintro v h' ⟨G',L',rfl,hn',hgg,hr⟩;exact⟨G',L',rfl,hgg,hn',hr⟩
theorem p6(p:Pt)(x:Nat)(G:Nat→Option Obj):
  FnD Tryz.prog 61 #[.pointer (some ⟨x,0,none⟩)] G (fun G' r=>∃ b,r=.func (.func 111) #[] #[.pointer (some ⟨b,0,none⟩)]∧eT G' ⟨b,0,none⟩=some (.pointer (some ⟨x,0,none⟩))):=by
 refine F61.fnD (by simp) (dF ?_);unfold c61;intros;refine gr 0 0 ?_;refine sJ c61r0.eq_1 ?_;intro b1 hb1
 (intros;try refine du ?_)
 refine ed jg ?_;rintro h' ⟨G1,rfl,hg1,hc1⟩;have e1:=hc1 0 _ rfl;rw[es]at e1;intros;refine gr 3 4 ?_;refine sJ c61r1.eq_1 ?_;intros;refine rV ?_;simp only[push_cast,Nat.reduceBEq];exact⟨b1,rfl,e1⟩
theorem F71:Fun Tryz.prog 71 60 v71 c71 o71:=Fun.mkA Tryz.func71 Tryz.ntmps71
def smW(r:Rp):Prop:=smL r.log.segs∧r.log.segs.length≤1000000∧r.eps.length≤1000000
theorem pV{l:List Rp}(h:∀ r∈l,smR r):∀ r∈l,smW r:=fun r hr=>by
 obtain⟨h1,h2,h3⟩:=h r hr;exact⟨h1,by omega,by omega⟩
theorem sF(p:Pt)(x:Nat)(A:Option Addr)(c:Nat)(B:Option Addr)(d:Nat)(ys zs:List Value)(n:Int)(h:H)(L:List Kx.Item)(hL:h.L.Perm (PtL p x A c B d ys zs++L))(hy:Cells IE 1 p.isr ys)(hz:Cells (RE h.G) 7 p.reps zs)(hn:I64 n)(hid:qu p.reps):
  ee Tryz.prog 51 #[.pointer (some ⟨x,0,none⟩),.int .i64 n] h fun r h'=>r=.pointer (ub B (atR p.reps n))∧h'=h :=
 iE eg F51.enters hL (wn hy hz) fun G' hg hp=>yg p x A c B d n G' hp hn hid L h.D
theorem vn:∀ (bs:List Batch) (nx:Int),(0≤nx∧nx≤1099511627777)→(∀ x∈bs,fp x=0)→0≤fI nx bs∧fI nx bs≤1099511627777
 | [],nx,h,_=>h
 | b :: bs,nx,h,hb=>by
  have:=fP.1 (uC (hb b (.head _))).2;exact vn bs (b.last+1) (by omega) fun x hx=>hb x (.tail _ hx)
theorem jY(l:Lg):0≤eD l∧eD l≤1099511627777:=by
 unfold eD;split
 ·rename_i h;obtain⟨s,e1,e2,e3,e4,e5⟩:=oy h;have h1:=fP.1 (Fk (gY h).1);have h2:=fP.1 (eI.1 e5.1.1).2;obtain⟨r,hs⟩:=eX s;have h3:=vn (em s) s.base (by omega) hs.ok;rw[e4];have h4:jL s=fI s.base (em s):=rfl;omega
 ·omega
theorem mu(l:List Rp)(k:Nat)(r:Rp):∀ (is:List Int) (m:Int),fD l k r m is≤m
 | [],m=>Int.le_refl _
 | n :: is,m=>by
  have h1:=mu l k r is (mq l k r m n);have h2:mq l k r m n≤m:=by
   unfold mq;split
   ·split
    ·exact Int.le_refl _
    ·exact Int.min_le_left ..
   ·exact Int.le_refl _
  exact Int.le_trans h1 h2
theorem mI(p:Pt)(k:Nat)(y:Rp)(x:Nat)(A:Option Addr)(c:Nat)(B:Option Addr)(d:Nat)(ys zs:List Value):PtL (fQ p k y) x A c B d ys zs=PtL p x A c B d ys zs:=by
 simp[PtL,dY,fQ]
theorem AC(a b:List Ep)(ae be:Int)(va vb:Value)(G:Nat→Option Obj)(ha:SEp G va a)(hb:SEp G vb b)(hla:a.length≤1000000)(hlb:b.length≤1000000):
  FnS Tryz.prog 126 #[va,.int .i64 ae,vb,.int .i64 be] G (.int .i64 (lY a b ae be)):=fun L D=>(yT a b ae be va vb G ha hb hla hlb L D).mono fun r h' ⟨⟨m,h1,h2⟩,h3⟩=>⟨by rw[h1,sj h2],h3⟩
theorem Am{G:Nat→Option Obj}{l:List Rp}{g d:Nat}{k:Nat}{r:Rp}(h:SlV G (RE G) 7 (.slice (some ⟨g,0,none⟩) l.length d) l)(hr:l[k]?=some r):
  ∃ A c B d,RE G r (fH r A c B d)∧(∀ L D,LdN ⟨G,L,D⟩ (.pointer (some ⟨g,k * 7,none⟩)) (some 7) (.agg (fH r A c B d).toArray))∧∀ L D o u,(fH r A c B d)[o]?=some u→LdN ⟨G,L,D⟩ (.pointer (some ⟨g,k * 7+o,none⟩)) none u:=by
 obtain⟨A0,d0,he,-,-,hA⟩:=h;cases he;obtain⟨a,cs,ha,h1,h2,h4⟩:=hA k r hr;cases ha;have h4:∀ (j:Nat) (u:Value),cs[j]?=some u→eT G ⟨g,k * 7+j,none⟩=some u:=fun j u hu=>by have:=h4 j u hu;rwa [gA]at this
 have h20:=h2;obtain⟨A,c,B,d,rfl,-⟩:=h2;exact⟨A,c,B,d,h20,fun L D=>⟨_,_,rfl,rfl,h1,fun j u hu=>by rw[es];exact .g (h4 j u hu)⟩,fun L D o u hu=>⟨_,rfl,.g (h4 o u hu)⟩⟩
theorem sY{α β:Type}(f:β→α→β)(b:β){l:List α}{k:Nat}{x:α}(h:l[k]?=some x):(l.take (k+1)).foldl f b=f ((l.take k).foldl f b) x:=by
 rw[List.take_add_one,h];simp
theorem la(p:Pt)(x:Nat)(A:Option Addr)(c:Nat)(B:Option Addr)(d:Nat)(ys zs:List Value)(G:Nat→Option Obj)(hy:Cells IE 1 p.isr ys)(hz:Cells (RE G) 7 p.reps zs)(hid:qu p.reps)(hin:∀ n∈p.isr,n∈fM p.reps)(hsm:∀ r∈p.reps,smW r)(hI:qp p):
  FnO Tryz.prog 71 #[.pointer (some ⟨x,0,none⟩)] G (PtL p x A c B d ys zs) (fun G' L' r=>r=.tuple #[]∧∃ zs',L'=PtL (dS p) x A c B d ys zs'∧Cells (RE G') 7 (dS p).reps zs'):=by
 refine F71.fnO (by simp) eg (dF ?_);unfold c71;intros;refine gr 5 12 ?_;refine sJ c71r0.eq_1 ?_;refine⟨_,dE (cs:=dY p A c B d) (.head _) rfl,?_⟩;refine sI ?_;refine(sF p x A c B d ys zs p.leader _ [] (by simp) hy hz hI.2.1 hid).mono ?_;rintro _ _ ⟨rfl,rfl⟩;refine sI ?_;intro b2 hb2;refine dI [] _ rfl (by simp) ⟨rfl,rfl⟩ ?_;refine sI ?_;intros;try refine dv ?_
 have hsame:dS p=p→∀ e L,go none Tryz.prog 60 v71.1 v71.2 (fW o71 fun v h=>v=.tuple #[]∧∃ zs',h.L=PtL (dS p) x A c B d ys zs'∧Cells (RE h.G) 7 (dS p).reps zs') (.s .ret :: L) e ⟨G,.blk b2 [.pointer (ub B (atR p.reps p.leader))] :: PtL p x A c B d ys zs,[]⟩:=fun hr e L=>by
  refine dC (dG (PtL p x A c B d ys zs) rfl (.cons _ (List.Sublist.refl _)) eg ⟨rfl,zs,?_,?_⟩)
  ·rw[hr]
  ·rw[hr];exact hz
 intros;refine gr 12 21 ?_;refine sJ c71r1.eq_1 ?_;refine⟨_,dE (cs:=dY p A c B d) (.tail _ (.head _)) rfl,?_⟩;refine sI ?_;refine gd (fun k1=>?_) (fun k1=>?_)
 ·have k1:=of_decide_eq_true k1;refine sI ?_;intros;refine gc ?_;refine sI ?_;exact hsame (by unfold dS;rw[if_pos k1]) _ _
 have k1:=of_decide_eq_false k1;refine sI ?_;refine⟨_,dE (.head _) rfl,?_⟩;refine sJ @xK ?_;cases hk:atR p.reps p.leader with
 | none =>
  rw[hk]at hsame;have hpt:ub B none=none:=rfl;refine sJ @hpt ?_;intros;refine gc ?_;refine sI ?_;refine hsame ?_ _ _;unfold dS;rw[if_neg k1,hk]
 | some k =>
  obtain⟨r,hr,-⟩:=gW hk;clear hsame;have hst:dS p=fQ p k { r with high:=max r.high (fD p.reps k r (eD r.log) p.isr) }:=by
   unfold dS;rw[if_neg k1,hk];dsimp only;rw[hr];rfl
  rw[hst];clear hst;have hkl:=(List.getElem?_eq_some_iff.1 hr).1;intros;refine ed (kq (.tail _ (.tail _ (.head _))) (by omega)) ?_;rintro h' ⟨rfl,g,c9,he,-,-⟩;cases he;have hpt:ub (some ⟨g,0,none⟩) (some k)=some ⟨g,k * 7,none⟩:=congrArg some (gA _ _);rw[hpt];intros;refine gc ?_;refine sI ?_;intros;refine gN ?_;obtain⟨cs,hre,hcl,hld⟩:=hz.get hr;have hre0:=hre
  have hsr:=hsm r (List.mem_of_getElem? hr);have hend:=iQ r cs G hre hsr.1 (by have:=hsr.2.1;omega);obtain⟨A1,c1,B1,d1,rfl,-⟩:=hre;intros;refine gr 22 26 ?_;refine sJ c71r2.eq_1 ?_;refine⟨_,dE (.head _) rfl,?_⟩;refine sI ?_;refine⟨_,gJ (.tail _ (.tail _ (.head _))) hcl hld,?_⟩;unfold fH at hend ⊢;refine sI ?_;refine(hend _ _).mono ?_;rintro _ _ ⟨rfl,rfl⟩;refine sI ?_;intro b3 hb3
  refine dI [] _ rfl (by simp) ⟨rfl,rfl⟩ ?_;refine sI ?_;intros;try refine dv ?_
  intros;try refine dv ?_
  intros;refine gr 26 27 ?_;refine sJ c71r3.eq_1 ?_;refine(p6 p x G _ _).mono ?_;rintro rr h' ⟨G1,rfl,hg1,b4,rfl,hb4⟩;refine sI ?_;intros;have hz1:=eG hz fun _ _ h=>RE.le hg1 h
  refine dx (h':=⟨G1,PtL p x A c (some ⟨g,0,none⟩) d ys zs++[.blk b3 [.int .i64 (eD r.log)],.blk b2 [.pointer (some ⟨g,k * 7,none⟩)]],[]⟩) (d7 (List.perm_append_comm (l₁:=[_,_]))) ?_;refine C9 eg (wn hy hz1) fun G2 hg2 hpt2=>?_
  refine Ar ?_;have hb42:=dJ hg2 hb4;have hit:=lP p x b4 A c _ d G2 hpt2 hid hb42;refine qA (α:=Int) (fun t G' L'=>L'=[.blk b3 [.int .i64 (fD p.reps k r (eD r.log) (p.isr.take t))],.blk b2 [.pointer (some ⟨g,k * 7,none⟩)]]) (fun _ _ _ _=>False) (eE) F111.enters (dA (dA dt)) (fun _ _ _ _ _ h=>h) hit (fun G x args h=>by cases h;rfl) rfl ?_ ?_ ?_
  ·rintro yl t n args G' L' hx hgl rfl rfl _;obtain⟨i,y,hi,hiy,hyn⟩:=pi (hin n (List.mem_of_getElem? hx));have hpti:ub (some ⟨g,0,none⟩) (some i)=some ⟨g,i * 7,none⟩:=congrArg some (gA _ _);have hleast:fD p.reps k r (eD r.log) (p.isr.take (t+1))=mq p.reps k r (fD p.reps k r (eD r.log) (p.isr.take t)) n:=sY _ _ hx;rw[hi,hpti];generalize fD p.reps k r (eD r.log) (p.isr.take t)=lt at *
   generalize fD p.reps k r (eD r.log) (p.isr.take (t+1))=lt' at *;refine sI ?_;intros;refine gr 0 0 ?_;refine sJ c71r4.eq_1 ?_;intro bb;refine fN (rc ?_);intros;try refine dv ?_
   intros;refine gr 29 31 ?_;refine sJ c71r5.eq_1 ?_;refine⟨_,dE (.tail _ (.head _)) rfl,?_⟩;refine sJ @DR ?_;intros;refine gc ?_;refine sI ?_;refine gb (fun k2=>?_) (fun k2=>?_)
   ·have k2:¬ i=k:=fun h=>by subst h;simp at k2
    have hstep:lt'=min lt (lY y.eps r.eps (eD y.log) (eD r.log)):=by
     rw[hleast];unfold mq;rw[hi];dsimp only;rw[if_neg k2,hiy];rfl
    have hsv:=(hpt2.le hgl).2.2;have hsy:=hsm y (List.mem_of_getElem? hiy);obtain⟨A2,c2,B2,d2,hre2,hl2,hf2⟩:=Am hsv hiy;obtain⟨A3,c3,B3,d3,hre3,hl3,hf3⟩:=Am hsv hr;have hendy:=iQ y _ G' hre2 hsy.1 (by have:=hsy.2.1;omega);have hendr:=iQ r _ G' hre3 hsr.1 (by have:=hsr.2.1;omega)
    have hmeet:FnS Tryz.prog 126 #[.slice B2 y.eps.length d2,.int .i64 (eD y.log),.slice B3 r.eps.length d3,.int .i64 (eD r.log)] G' (.int .i64 (lY y.eps r.eps (eD y.log) (eD r.log))):=by
     obtain⟨_,_,_,_,he2,_,hs2,_⟩:=hre2;obtain⟨_,_,_,_,he3,_,hs3,_⟩:=hre3;unfold fH at he2 he3;cases he2;cases he3;exact AC _ _ _ _ _ _ _ hs2 hs3 (by have:=hsy.2.2;omega) (by have:=hsr.2.2;omega)
    unfold fH at hendy hendr hl2 hl3
    (intros;try refine du ?_);refine Dj _ (List.Sublist.refl _) (by decide) ?_;refine sJ c71r6.eq_1 ?_
    refine⟨_,dE (.head _) rfl,?_⟩;refine sI ?_;refine⟨_,hf2 _ _ 5 _ rfl,?_⟩;refine sI ?_;refine⟨_,hl2 _ _,?_⟩;refine sI ?_;refine⟨_,dE (.tail _ (.head _)) rfl,?_⟩;refine sI ?_;refine⟨_,hf3 _ _ 5 _ rfl,?_⟩;refine sI ?_;refine⟨_,dE (.tail _ (.head _)) rfl,?_⟩;refine sI ?_;refine⟨_,hl3 _ _,?_⟩;refine sI ?_;refine(hendy _ _).mono ?_;rintro _ _ ⟨rfl,rfl⟩;refine sI ?_
    refine(hendr _ _).mono ?_;rintro _ _ ⟨rfl,rfl⟩;refine sI ?_;refine(hmeet _ _).mono ?_;rintro _ _ ⟨rfl,rfl⟩;refine sI ?_;rw[← hstep];refine sJ c71r7.eq_1 ?_;refine dI [] _ rfl (by simp) ⟨rfl,rfl⟩ ?_;refine sI ?_;intros;refine gN ?_;refine fN (pR _ (List.Sublist.refl _) (dA (dA dt)) rfl)
   ·have k2:i=k:=by simp at k2;omega
    subst k2;have hstep:lt'=lt:=by
     rw[hleast];unfold mq;rw[hi];dsimp only;rw[if_pos rfl]
    subst hstep;intros;refine gN ?_;refine fN (pR _ (List.Sublist.refl _) (dA (dA dt)) rfl)
  ·rintro G' L' dd hgl rfl _;refine jS ?_;refine fN ⟨_,_,_,rfl,?_⟩;rw[List.take_length];have hlt:=mu p.reps k r p.isr (eD r.log);have hel:=jY r.log;generalize fD p.reps k r (eD r.log) p.isr=lt at *
   have hrow:Item.row (.slice (some ⟨g,0,none⟩) p.reps.length d) 50 7 p.reps.length zs∈PtL p x A c (some ⟨g,0,none⟩) d ys zs++[.blk b3 [.int .i64 lt],.blk b2 [.pointer (some ⟨g,k * 7,none⟩)]]:=.tail _ (.head _);have hz6:=hld 6 _ rfl;refine(?_:go none Tryz.prog 60 v71.1 v71.2 _ [.s (SC.rgT c71r8 c71r9)] _ _)
   (intros;try refine du ?_);refine FL (by decide) ?_;refine sJ c71r8.eq_1 ?_
   refine⟨_,dE (.tail _ (.tail _ (.tail _ (.tail _ (.head _))))) rfl,?_⟩;refine sI ?_;refine⟨_,dE (.tail _ (.tail _ (.tail _ (.tail _ (.head _))))) rfl,?_⟩;refine sI ?_;refine⟨_,eR hrow hz6,?_⟩;refine sI ?_;refine⟨_,dE (.tail _ (.tail _ (.tail _ (.head _)))) rfl,?_⟩;refine sJ c71r9.eq_1 ?_;refine fF [_] _ rfl (by simp;have:=hz.len;omega) ⟨rfl,rfl⟩ ?_;refine sI ?_
   refine fN ⟨[],rfl,⟨G1,PtL (fQ p k { r with high:=max r.high lt }) x A c (some ⟨g,0,none⟩) d ys (splice zs (k * 7+6) [.int .i64 (max r.high lt)]),[]⟩,?_,eg,rfl,_,rfl,?_⟩
   ·rw[mI];exact dD (List.sublist_append_left _ _)
   ·refine Cells.setF hz1 hr (by simp) fun cs h hl=>?_
    obtain⟨A5,c5,B5,d5,rfl,q1,q2,q3,q4,q5⟩:=h;exact⟨A5,c5,B5,d5,rfl,q1,q2,q3,q4,by unfold I64 at q5 ⊢;show _≤max r.high lt∧max r.high lt≤_;omega⟩
  ·rintro ex i G' L' d _ _ h;exact h.elim
theorem F48:Fun Tryz.prog 48 8 v48 c48 o48:=Fun.mkA Tryz.func48 Tryz.ntmps48
theorem F116:Fun Tryz.prog 116 8 v116 c116 o116:=Fun.mkA Tryz.func116 Tryz.ntmps116
theorem F65:Fun Tryz.prog 65 37 v65 c65 o65:=Fun.mkA Tryz.func65 Tryz.ntmps65
theorem F80:Fun Tryz.prog 80 13 v80 c80 o80:=Fun.mkA Tryz.func80 Tryz.ntmps80
theorem F134:Fun Tryz.prog 134 15 v134 c134 o134:=Fun.mkA Tryz.func134 Tryz.ntmps134
theorem pj(l:List Int)(v:Value)(G:Nat→Option Obj)(hl:SlV G IE 1 v l)(hb:l.length≤100000):FnO Tryz.prog 48 #[v] G [] (fun _ L' r=>xH IE 3 1 l L' r):=by
 refine F48.fnO (by simp) dt (dF ?_);have hl0:=hl;obtain⟨A,c,rfl,hc,hm,hA⟩:=hl;unfold c48;intros;refine gr 0 0 ?_;refine sJ c48r0.eq_1 ?_;intros;refine gr 3 4 ?_;refine sJ c48r1.eq_1 ?_;intros;refine gc ?_;refine sI ?_;refine gb (fun ht=>?_) (fun ht=>?_)
 ·intros;refine gr 0 0 ?_;refine sJ c48r2.eq_1 ?_
  (intros;try refine du ?_)
  have hA0:l=[]:=by
   match l,hA with
   | [],_=>rfl
   | x :: xs,hA=>obtain⟨a,_,ha,_⟩:=hA 0 x rfl;subst ha;cases ht
  subst hA0;refine dx (dR none 3 1) ?_;refine dC (dG _ rfl (List.Sublist.refl _) (dw dt) ?_);exact⟨[],.nil,rfl⟩
 ·intros;refine gN ?_;intros;refine gr 5 8 ?_;refine sJ c48r3.eq_1 ?_;intro b hb';refine l5 (.inr ⟨⟨_,rfl⟩,rfl,rfl,rfl,rfl⟩) hl0 rfl IE1 ⟨by omega,by unfold maxLen;omega⟩ fun ys A c hc=>?_
  simp only[Nat.zero_add];refine sI ?_
  (intros;try refine du ?_)
  refine dC (dG _ rfl (List.Sublist.refl _) (dw dt) ?_);exact⟨ys,hc,rfl⟩
theorem tT(l:List Rp)(v:Value)(G:Nat→Option Obj)(hl:SlV G (RE G) 7 v l)(hb:l.length≤100000):FnO Tryz.prog 116 #[v] G [] (fun _ L' r=>xH (RE G) 50 7 l L' r):=by
 refine F116.fnO (by simp) dt (dF ?_);have hl0:=hl;obtain⟨A,c,rfl,hc,hm,hA⟩:=hl;unfold c116;intros;refine gr 0 0 ?_;refine sJ c116r0.eq_1 ?_;intros;refine gr 3 4 ?_;refine sJ c116r1.eq_1 ?_;intros;refine gc ?_;refine sI ?_;refine gb (fun ht=>?_) (fun ht=>?_)
 ·intros;refine gr 0 0 ?_;refine sJ c116r2.eq_1 ?_
  (intros;try refine du ?_)
  have hA0:l=[]:=by
   match l,hA with
   | [],_=>rfl
   | x :: xs,hA=>obtain⟨a,_,ha,_⟩:=hA 0 x rfl;subst ha;cases ht
  subst hA0;refine dx (dR none 50 7) ?_;refine dC (dG _ rfl (List.Sublist.refl _) (dw dt) ?_);exact⟨[],.nil,rfl⟩
 ·intros;refine gN ?_;intros;refine gr 5 8 ?_;refine sJ c116r3.eq_1 ?_;intro b hb';refine l5 (.inr ⟨⟨_,rfl⟩,rfl,rfl,rfl,rfl⟩) hl0 rfl RE1 ⟨by omega,by unfold maxLen;omega⟩ fun ys A c hc=>?_
  simp only[Nat.zero_add];refine sI ?_
  (intros;try refine du ?_)
  refine dC (dG _ rfl (List.Sublist.refl _) (dw dt) ?_);exact⟨ys,hc,rfl⟩
def yH(q:Pt × Int)(x:Nat)(CE:List Kx.Item→Prop)(G':Nat→Option Obj)(L':List Kx.Item)(r:Value):Prop :=
 r=.int .i64 q.2∧∃ K C',L'=K++C'∧CE C'∧(q.2≠0→K=[])∧(q.2=0→∃ A c B d ys zs,K=PtL q.1 x A c B d ys zs∧Cells IE 1 q.1.isr ys∧Cells (RE G') 7 q.1.reps zs∧qp q.1)
def Di(G0:Nat→Option Obj)(g:Nat)(cap:Array Value)(p:Pt)(q:Pt × Int)(C0:List Kx.Item)(CE:List Kx.Item→Prop):Prop :=
 ∀ G x A c B d ys zs,Gle G0 G→Cells IE 1 p.isr ys→Cells (RE G) 7 p.reps zs→FnO Tryz.prog g (#[.pointer (some ⟨x,0,none⟩)]++cap) G (PtL p x A c B d ys zs++C0) (fun G' L' r=>yH q x CE G' L' r)
noncomputable def mf(p:Pt)(q:Pt × Int):Pt × Int:=if fa p=0 then(if q.2=0 then(q.1,0)else(iz,q.2))else(iz,fa p)
def PtR(q:Pt × Int)(G:Nat→Option Obj)(r:Value):Prop:=∃ cs,r=.tuple #[.agg cs.toArray,.int .i64 q.2]∧PE G q.1 cs
theorem re(G:Nat→Option Obj)(e:Int):PtR (iz,e) G (.tuple #[.agg #[.int .i64 0,.int .i64 0,.int .i64 0,.slice none 0 0,.slice none 0 0],.int .i64 e]) :=
 ⟨_,rfl,none,0,none,0,rfl,slN,slN,iA,iA,iA⟩
theorem kE{h:H}{b o k:Nat}{cs us:List Value}(hm:Item.blk b cs∈h.L)(hl:us.length=k)(hv:∀ j u,us[j]?=some u→cs[o+j]?=some u):LdN h (.pointer (some ⟨b,o,none⟩)) (some k) (.agg us.toArray) :=
 ⟨_,us,rfl,rfl,hl,fun j u hu=>by rw[es];exact .blk hm (hv j u hu)⟩
theorem pG(p:Pt)(cs:List Value)(g:Nat)(cap:Array Value)(q:Pt × Int)(C0:List Kx.Item)(CE:List Kx.Item→Prop)(G:Nat→Option Obj)(hp:PE G p cs)(hsm:smP p)(hn0:dO C0)(hCE:∀ C,CE C→dO C)
  (hdo:okP p→Di G g cap p q C0 CE) :
  FnO Tryz.prog 65 #[.agg cs.toArray,.func (.func g) #[] cap] G C0 (fun G' L' r=>PtR (mf p q) G' r∧dO L'∧(CE L'∨(fa p≠0∧L'=C0))):=by
 have hchk:=jP p cs G hp hsm;have hp0:=hp;obtain⟨A,c,B,d,rfl,hI,hR,hi1,hi2,hi3⟩:=hp;have h2:=lU (s:=2) hn0;have h4:=lU (s:=4) hn0;refine F65.fnO (by simp) hn0 (dF ?_);unfold c65;unfold dY at hchk hp0 ⊢;intros;refine gr 0 0 ?_;refine sJ3 c65r0.eq_1 @h2 @h4 ?_;intros;try refine dv ?_
 intros;try refine dv ?_
 intros;refine gr 9 11 ?_;refine sJ c65r1.eq_1 ?_;refine(hchk _ _).mono ?_;rintro _ _ ⟨rfl,rfl⟩;refine sI ?_;intros;try refine dv ?_
 intros;refine gr 11 12 ?_;refine sJ c65r2.eq_1 ?_;intros;refine gc ?_;refine sI ?_;refine gb (fun k1=>?_) (fun k1=>?_)
 ·have k1:=of_decide_eq_true k1;intros;refine gr 13 15 ?_;refine sJ c65r3.eq_1 ?_;intros;refine dC (dG C0 rfl (.cons _ (.cons _ (List.Sublist.refl _))) hn0 ⟨?_,hn0,.inr ⟨k1,rfl⟩⟩);rw[mf,if_neg k1];exact re _ _
 have k1:fa p=0:=by simpa using k1
 have hok:=jO k1;obtain⟨hs1,hs2,hs3⟩:=hsm;intros;refine gN ?_;intros;try refine dv ?_
 have hcr:=tT p.reps _ G hR (by omega)
 (intros;try refine du ?_);refine Dj _ (List.Sublist.refl _) (by decide) ?_;refine sJ c65r4.eq_1 ?_
 refine(iS hcr _ _).mono ?_;rintro r h' ⟨G1,L',rfl,hg1,B1,d1,zs,rfl,-,hzs,rfl⟩;refine sI ?_;refine⟨dK hg1 (.cons _ (List.Sublist.refl _)),?_⟩;refine(iS (pj p.isr _ G1 (hI.le (E':=IE) hg1 fun _ _ h=>h) (by omega)) _ _).mono ?_;rintro r h' ⟨G2,L',rfl,hg2,A2,c2,ys,rfl,-,hys,rfl⟩;have hg02:=hg1.trans hg2;refine sI ?_;refine⟨dK hg02 (.cons _ (.cons _ (List.Sublist.refl _))),?_⟩;refine sJ c65r5.eq_1 ?_
 intros;try refine dv ?_
 intros;refine gr 23 26 ?_;refine sJ c65r6.eq_1 ?_;intro x hx;refine sI ?_;have hz2:=eG hzs fun _ _ h=>RE.le hg02 h
 have hfn:=hdo hok G2 x A2 c2 B1 d1 ys zs hg02 hys hz2;intros;try refine dv ?_
 intros;try refine dv ?_
 refine dx (h':=⟨G2,(PtL p x A2 c2 B1 d1 ys zs++C0)++[.reg 4 [.int .i64 0,.int .i64 0,.int .i64 0,.slice none 0 0,.slice none 0 0],.reg 2 [.int .i64 p.epoch,.int .i64 p.leader,.int .i64 p.least,.slice A2 p.isr.length c2,.slice B1 p.reps.length d1]],[]⟩) (d7 (.cons _ ((List.Perm.swap _ _ _).trans (.cons _ (.cons _ (List.perm_append_comm (l₁:=[_,_]) (l₂:=C0))))))) ?_
 intros;refine gr 26 29 ?_;refine sJ c65r7.eq_1 ?_;refine .inl ⟨g,cap,rfl,?_⟩;refine(hfn _ _).mono ?_;rintro r h' ⟨G3,L3,rfl,hg3,rfl,K,C',rfl,hce,hk1,hk2⟩;have hnc:=hCE C' hce;refine sI ?_;intros
 refine dx (h':=⟨G3,[.reg 4 [.int .i64 0,.int .i64 0,.int .i64 0,.slice none 0 0,.slice none 0 0],.reg 2 [.int .i64 p.epoch,.int .i64 p.leader,.int .i64 p.least,.slice A2 p.isr.length c2,.slice B1 p.reps.length d1]]++(K++C'),[]⟩) (d7 List.perm_append_comm) ?_;intros;try refine dv ?_
 intros;refine gr 29 30 ?_;refine sJ c65r8.eq_1 ?_;intros;refine gc ?_;refine sI ?_;refine gb (fun k2=>?_) (fun k2=>?_)
 ·have k2:=of_decide_eq_true k2;have:=hk1 k2;subst this;intros;refine gr 31 33 ?_;refine sJ c65r9.eq_1 ?_;intros;refine dC (dG C' rfl (.cons _ (.cons _ (List.Sublist.refl _))) hnc ⟨?_,hnc,.inl hce⟩);rw[mf,if_pos k1,if_neg k2];exact re _ _
 have k2:q.2=0:=by simpa using k2
 obtain⟨A4,c4,B4,d4,ys4,zs4,rfl,hy4,hz4,hi4⟩:=hk2 k2;intros;refine gN ?_;intros;try refine dv ?_
 refine ed (dQ [_,_,_] _ (by decide) hz4) ?_;rintro h' ⟨G4,rfl,hg4,hv4⟩;refine ed (dQ [_,_,_] _ (by decide) hy4) ?_;rintro h' ⟨G5,rfl,hg5,hv5⟩;intros;refine gr 33 37 ?_;refine sJ c65r10.eq_1 ?_;refine⟨_,kE (cs:=dY q.1 A4 c4 B4 d4) (us:=dY q.1 A4 c4 B4 d4) (.tail _ (.tail _ (.head _))) rfl (fun j u h=>by rw[Nat.zero_add];exact h),?_⟩;unfold dY;refine sI ?_;intros
 refine dC (dG C' rfl (.cons _ (.cons _ (.cons _ (List.Sublist.refl _)))) hnc ⟨?_,hnc,.inl hce⟩);rw[mf,if_pos k1,if_pos k2];exact⟨_,rfl,A4,c4,B4,d4,rfl,hv5,SlR.le hg5 (hv4.le (.refl _) fun _ _ h=>RE.le hg4 h),hi4⟩
noncomputable def ofQ(p:Pt)(n:Int)(f:Nat→Rp→Pt × Int):Pt × Int :=
 match atR p.reps n with
 | none=>(p,1)
 | some k=>match p.reps[k]? with
  | none=>(p,1)
  | some r=>f k r
theorem je(p:Pt)(n:Int)(f:Pt→Nat→Rp→Pt × Int):ofP p n f=mf p (ofQ p n (f p)):=rfl
theorem AF{p:Pt}{n:Int}(f:Nat→Rp→Pt × Int)(h:atR p.reps n=none):ofQ p n f=(p,1):=by unfold ofQ;rw[h]
theorem mG{p:Pt}{n:Int}(f:Nat→Rp→Pt × Int){k:Nat}{r:Rp}(h:atR p.reps n=some k)(hr:p.reps[k]?=some r):ofQ p n f=f k r:=by
 unfold ofQ;rw[h];dsimp only;rw[hr]
def nm(G0:Nat→Option Obj)(g:Nat)(cap:Array Value)(p:Pt)(k:Nat)(q:Pt × Int):Prop :=
 ∀ G x A c ga d ys zs,Gle G0 G→Cells IE 1 p.isr ys→Cells (RE G) 7 p.reps zs→FnO Tryz.prog g (#[.pointer (some ⟨x,0,none⟩),.pointer (some ⟨ga,k * 7,none⟩)]++cap) G (PtL p x A c (some ⟨ga,0,none⟩) d ys zs) (fun G' L' r=>yH q x (· = []) G' L' r)
theorem gz{p:Pt}(h:okP p):qu p.reps:=⟨h.1.2.1.2.2,fun r hr=>(h.1.2.2.2.2 r hr).1.1⟩
theorem ES(p:Pt)(n:Int)(g:Nat)(cap:Array Value)(f:Nat→Rp→Pt × Int)(b4 b5:Nat)(G:Nat→Option Obj)(hok:okP p)(hn:I64 n)(h4:eT G ⟨b4,0,none⟩=some (.int .i64 n))(h5:eT G ⟨b5,0,none⟩=some (.func (.func g) #[] cap))
  (hdo:∀ k r,atR p.reps n=some k→p.reps[k]?=some r→nm G g cap p k (f k r)):Di G 134 #[.pointer (some ⟨b4,0,none⟩),.pointer (some ⟨b5,0,none⟩)] p (ofQ p n f) [] (· = []):=by
 intro G1 x A c B d ys zs hg hy hz;have h4:=dJ hg h4;have h5:=dJ hg h5;rw[List.append_nil];refine F134.fnO (by simp) eg (dF ?_);unfold c134;intros;refine gr 0 0 ?_;refine sJ c134r0.eq_1 ?_;intros;refine gr 6 9 ?_;refine sJ c134r1.eq_1 ?_;refine⟨_,⟨_,rfl,.g h4⟩,?_⟩;refine sI ?_;refine(sF p x A c B d ys zs n _ [] (by simp) hy hz hn (gz hok)).mono ?_;rintro _ _ ⟨rfl,rfl⟩;refine sI ?_
 intros;try refine dv ?_
 cases hk:atR p.reps n with
 | none =>
  have hpt:ub B none=none:=rfl;rw[hpt];intros;try refine dv ?_
  intros;refine gr 9 10 ?_;refine sJ2 c134r2.eq_1 @xK ?_;intros;refine gc ?_;refine sI ?_;intros;refine gr 0 0 ?_;refine sJ c134r3.eq_1 ?_;intros;refine dC (dG [] rfl (List.nil_sublist _) dt ⟨?_,[],[],rfl,rfl,fun _=>rfl,fun h=>?_⟩)
  ·rw[AF f hk];rfl
  ·rw[AF f hk]at h;cases h
 | some k =>
  obtain⟨r,hr,-⟩:=gW hk;have hkl:=(List.getElem?_eq_some_iff.1 hr).1;intros;refine ed (kq (.tail _ (.head _)) (by omega)) ?_;rintro h' ⟨rfl,ga,c9,he,-,-⟩;cases he;have hpt:ub (some ⟨ga,0,none⟩) (some k)=some ⟨ga,k * 7,none⟩:=congrArg some (gA _ _);rw[hpt];have hfn:=hdo k r hk hr G1 x A c ga d ys zs hg hy hz;intros;try refine dv ?_
  intros;refine gr 9 10 ?_;refine sJ2 c134r2.eq_1 @xK ?_;intros;refine gc ?_;refine sI ?_;intros;refine gN ?_;intros;refine gr 11 15 ?_;refine sJ c134r4.eq_1 ?_;refine⟨_,⟨_,rfl,.g h5⟩,?_⟩;refine sI ?_;refine .inl ⟨g,cap,rfl,?_⟩;rw[← List.append_nil (PtL p x A c (some ⟨ga,0,none⟩) d ys zs)];refine(hfn _ _).mono ?_;rintro r' h' ⟨G3,L3,rfl,hg3,rfl,K,C',rfl,rfl,hk1,hk2⟩
  rw[List.append_nil,List.append_nil];refine sI ?_;intros;have hnk:dO K:=by
   by_cases k2:(f k r).2=0
   ·obtain⟨A4,c4,B4,d4,ys4,zs4,rfl,-⟩:=hk2 k2;exact eg
   ·rw[hk1 k2];exact dt
  refine dC (dG K rfl (List.Sublist.refl _) hnk ⟨?_,K,[],(List.append_nil K).symm,rfl,?_,?_⟩)
  ·rw[mG f hk hr];rfl
  ·rw[mG f hk hr];exact hk1
  ·rw[mG f hk hr];exact hk2
theorem Di.le{G0 G1:Nat→Option Obj}(hg:Gle G0 G1){g:Nat}{cap:Array Value}{p:Pt}{q:Pt × Int}{C0:List Kx.Item}{CE:List Kx.Item→Prop}(h:Di G0 g cap p q C0 CE):Di G1 g cap p q C0 CE :=
 fun G x A c B d ys zs h1=>h G x A c B d ys zs (hg.trans h1)
theorem nm.le{G0 G1:Nat→Option Obj}(hg:Gle G0 G1){g:Nat}{cap:Array Value}{p:Pt}{k:Nat}{q:Pt × Int}(h:nm G0 g cap p k q):nm G1 g cap p k q :=
 fun G x A c ga d ys zs h1=>h G x A c ga d ys zs (hg.trans h1)
theorem uR(p:Pt)(cs:List Value)(n:Int)(g:Nat)(cap:Array Value)(f:Nat→Rp→Pt × Int)(G:Nat→Option Obj)(hp:PE G p cs)(hsm:smP p)(hn:I64 n)
  (hdo:okP p→∀ k r,atR p.reps n=some k→p.reps[k]?=some r→nm G g cap p k (f k r)) :
  FnD Tryz.prog 80 #[.agg cs.toArray,.int .i64 n,.func (.func g) #[] cap] G (PtR (mf p (ofQ p n f))):=by
 have hp0:=hp;obtain⟨A,c,B,d,rfl,-⟩:=hp;refine F80.fnD (by simp) (dF ?_);unfold c80;unfold dY at hp0 ⊢;intros;refine gr 0 0 ?_;refine sJ c80r0.eq_1 ?_;intro b4 hb4 b5 hb5;refine sI ?_;intros;refine ed (ec [_] _) ?_;rintro h' ⟨G1,rfl,hg1,f5⟩;refine ed (ec [_] _) ?_;rintro h' ⟨G2,rfl,hg2,f4⟩;have f5:=dJ hg2 (f5 0 _ rfl);have f4:=f4 0 _ rfl;rw[es]at f4 f5;have hg02:=hg1.trans hg2
 have hch:=pG p _ 134 #[.pointer (some ⟨b4,0,none⟩),.pointer (some ⟨b5,0,none⟩)] (ofQ p n f) [] (· = []) G2 (hp0.le hg02) hsm dt (fun C h=>by rw[h];exact dt) fun hok =>
  ES p n g cap f b4 b5 G2 hok hn f4 f5 fun k r hk hr=>(hdo hok k r hk hr).le hg02
 intros;try refine dv ?_
 intros;refine gr 8 13 ?_;refine sJ c80r1.eq_1 ?_;refine(hch _ _).mono ?_;rintro r h' ⟨G3,L3,rfl,hg3,⟨cs3,rfl,hpe⟩,-,hL⟩;have hL:L3=[]:=by
  rcases hL with h | ⟨-,h⟩ <;> exact h
 subst hL;have hpe0:=hpe;obtain⟨A3,c3,B3,d3,rfl,-⟩:=hpe;unfold dY at hpe0 ⊢;refine sI ?_;intros;refine rV ?_;simp only[push_cast,Nat.reduceBEq];exact⟨_,rfl,hpe0⟩
theorem F37:Fun Tryz.prog 37 12 v37 c37 o37:=Fun.mkA Tryz.func37 Tryz.ntmps37
theorem F91:Fun Tryz.prog 91 45 v91 c91 o91:=Fun.mkH Tryz.func91 Tryz.ntmps91 (by kernel_rfl) (by kernel_rfl) s91 q91
theorem ea(p:Pt):(dS p).epoch=p.epoch∧(dS p).leader=p.leader∧(dS p).least=p.least∧(dS p).isr=p.isr∧(dS p).reps.length=p.reps.length:=by
 unfold dS;split
 ·exact⟨rfl,rfl,rfl,rfl,rfl⟩
 ·split
  ·exact⟨rfl,rfl,rfl,rfl,rfl⟩
  ·split
   ·exact⟨rfl,rfl,rfl,rfl,rfl⟩
   ·exact⟨rfl,rfl,rfl,rfl,List.length_set ..⟩
theorem kC{p:Pt}(h:qp p):qp (dS p):=by
 obtain⟨h1,h2,h3,-⟩:=ea p;unfold qp;rw[h1,h2,h3];exact h
theorem ou{p:Pt}{e:Int}(x:Nat)(G:Nat→Option Obj)(h:e≠0):yH (p,e) x (· = []) G [] (.int .i64 e):=⟨rfl,[],[],rfl,rfl,fun _=>rfl,fun h2=>absurd h2 h⟩
theorem uP{p:Pt}{x:Nat}{G:Nat→Option Obj}{A:Option Addr}{c:Nat}{B:Option Addr}{d:Nat}{ys zs:List Value}(hy:Cells IE 1 p.isr ys)(hz:Cells (RE G) 7 p.reps zs)(hi:qp p):
  yH (p,0) x (· = []) G (PtL p x A c B d ys zs) (.int .i64 0):=⟨rfl,_,[],(List.append_nil _).symm,rfl,fun h=>absurd rfl h,fun _=>⟨A,c,B,d,ys,zs,rfl,hy,hz,hi⟩⟩
theorem lQ(l:List Int)(n:Int)(A:Option Addr)(c:Nat)(ys:List Value)(h:H)(L:List Kx.Item)(hL:h.L.Perm (.row (.slice A l.length c) 3 1 l.length ys :: L))(hy:Cells IE 1 l ys):
  ee Tryz.prog 58 #[.slice A l.length c,.int .i64 n] h fun r h'=>r=.bool (decide (n∈l))∧h'=h :=
 iE (L1:=[_]) (M:=fun G=>SlV G IE 1 (.slice A l.length c) l) (dw dt) F58.enters hL (jm (M1:=fun G=>SlV G IE 1 (.slice A l.length c) l) (fun L=>kn (by decide) hy) fun G' _ h=>ml h) fun G' hg hp=>jK l n _ G' hp L h.D
theorem uK(p:Pt)(n:Int)(b3 k:Nat)(r:Rp)(G:Nat→Option Obj)(hok:okP p)(hsm:smP p)(hI:qp p)(hn:I64 n)(h3:eT G ⟨b3,0,none⟩=some (.int .i64 n))(hr:p.reps[k]?=some r):
  nm G 91 #[.pointer (some ⟨b3,0,none⟩)] p k (fL n p k r):=by
 intro G1 x A c ga d ys zs hg hy hz;have h3:=dJ hg h3;obtain⟨cs,hre,hcl,hld⟩:=hz.get hr;obtain⟨A1,c1,B1,d1,rfl,-⟩:=hre;rw[show(#[.pointer (some ⟨x,0,none⟩),.pointer (some ⟨ga,k * 7,none⟩)]++#[.pointer (some ⟨b3,0,none⟩)]:Array Value)=#[.pointer (some ⟨x,0,none⟩),.pointer (some ⟨ga,k * 7,none⟩),.pointer (some ⟨b3,0,none⟩)]from rfl];refine F91.fnO (by simp) eg (dF ?_);unfold c91
 intros;refine gr 0 0 ?_;refine sJ c91r0.eq_1 ?_
 (intros;try refine du ?_)
 intros;refine gr 7 12 ?_;refine sJ c91r1.eq_1 ?_;refine⟨_,eR (.tail _ (.head _)) (hld 1 _ rfl),?_⟩;refine sI ?_;intros;refine gc ?_;refine sI ?_;refine gb (fun k1=>?_) (fun k1=>?_)
 ·have k1:r.up=false:=by simpa using k1
  intros;refine gr 0 0 ?_;refine sJ c91r2.eq_1 ?_;intros;refine dC (dG [] rfl (List.nil_sublist _) dt ?_);rw[fL,if_pos k1];exact ou x _ (by decide)
 have k1:¬ r.up=false:=by simpa using k1
 intros;try refine dv ?_
 (intros;try refine du ?_);refine o3 _ (List.Sublist.refl _) (by decide) ?_;refine sJ c91r3.eq_1 ?_
 refine⟨_,dE (cs:=dY p A c (some ⟨ga,0,none⟩) d) (.head _) rfl,?_⟩;refine sI ?_;refine⟨_,⟨_,rfl,.g h3⟩,?_⟩;refine sI ?_;refine(lQ p.isr n A c ys _ _ (List.perm_append_comm (l₁:=[_,_]) (l₂:=[_])) hy).mono ?_;rintro _ _ ⟨rfl,rfl⟩;refine sI ?_;intros;refine gc ?_;refine sI ?_;refine gb (fun k2=>?_) (fun k2=>?_)
 ·have k2:n∉p.isr:=by simpa using k2
  intros;refine gr 0 0 ?_;refine sJ c91r4.eq_1 ?_;intros;refine dC (dG [] rfl (List.nil_sublist _) dt ?_);rw[fL,if_neg k1,if_pos k2];exact ou x _ (by decide)
 have k2:n∈p.isr:=by simpa using k2
 intros;try refine dv ?_
 intros;refine gr 22 28 ?_;refine sJ c91r5.eq_1 ?_;refine⟨_,dE (cs:=dY p A c (some ⟨ga,0,none⟩) d) (.head _) rfl,?_⟩;refine sI ?_;intros;refine gc ?_;refine sI ?_;refine gb (fun k3=>?_) (fun k3=>?_)
 ·have k3:=of_decide_eq_true k3;intros;refine gr 0 0 ?_;refine sJ c91r6.eq_1 ?_;intros;refine dC (dG [] rfl (List.nil_sublist _) dt ?_);rw[fL,if_neg k1,if_neg (fun h=>h k2),if_pos k3];exact ou x _ (by decide)
 have k3:=of_decide_eq_false k3;have hep:0≤p.epoch∧p.epoch≤1048576:=by have:=hok.1.1;simpa [idI]using this
 have hw:IntKind.i64.wrap (p.epoch+1)=p.epoch+1:=by rw[dU] <;> omega
 have hq:fL n p k r=(dS { p with epoch:=p.epoch+1,leader:=n },0):=by rw[fL,if_neg k1,if_neg (fun h=>h k2),if_neg k3]
 rw[hq];have hi2:qp { p with epoch:=p.epoch+1,leader:=n }:=⟨by unfold I64;show _≤p.epoch+1∧p.epoch+1≤_;omega,hn,hI.2.2⟩;have hraise:=fun zs' hz'=>la { p with epoch:=p.epoch+1,leader:=n } x A c (some ⟨ga,0,none⟩) d ys zs' G1 hy hz' (gz (p:=p) hok) hok.2.1.2 (pV hsm.1) hi2
 have hraise:=hraise zs hz;generalize hp2:({ p with epoch:=p.epoch+1,leader:=n }:Pt)=p2 at *;intros;refine gN ?_;intros;try refine dv ?_
 refine eA (fun e h=>e 0=.pointer (some ⟨x,0,none⟩)∧h=⟨G1,PtL p2 x A c (some ⟨ga,0,none⟩) d ys zs,[]⟩) ?_ ?_
 ·(intros;try refine du ?_);refine zS _ (List.nil_sublist _) (by decide) ?_;refine sJ c91r7.eq_1 ?_
  refine⟨?_,?_⟩
  ·refine⟨_,dE (cs:=dY p A c (some ⟨ga,0,none⟩) d) (.head _) rfl,?_⟩;refine sJ @hw ?_;refine⟨dK (fun _ _ h=>h) (List.nil_sublist _),?_⟩;refine sJ @hw ?_;refine⟨?_,?_⟩
   ·refine⟨_,⟨_,rfl,.g h3⟩,?_⟩;refine sJ @hw ?_;refine⟨dK (fun _ _ h=>h) (List.nil_sublist _),?_⟩;refine sJ @hw ?_;refine dI [] _ rfl (by simp[dY,splice]) ⟨rfl,rfl⟩ ?_;refine sJ @hw ?_;refine⟨dK (fun _ _ h=>h) (List.nil_sublist _),?_⟩;refine sJ @hw ?_;refine dI [] _ rfl (by simp[dY,splice]) ⟨rfl,rfl⟩ ?_;refine sJ @hw ?_;refine⟨dK (fun _ _ h=>h) (List.nil_sublist _),?_⟩;refine sJ @hw ?_
    exact eh ⟨eE,by rw[← hp2];rfl⟩
   ·refine dI [] _ rfl (by simp[dY,splice]) ⟨rfl,rfl⟩ ?_;refine sJ @hw ?_;refine⟨dK (fun _ _ h=>h) (List.nil_sublist _),?_⟩;refine sJ @hw ?_;refine⟨_,⟨_,rfl,.g h3⟩,?_⟩;refine sJ @hw ?_;refine⟨dK (fun _ _ h=>h) (List.nil_sublist _),?_⟩;refine sJ @hw ?_;refine dI [] _ rfl (by simp[dY,splice]) ⟨rfl,rfl⟩ ?_;refine sJ @hw ?_;refine⟨dK (fun _ _ h=>h) (List.nil_sublist _),?_⟩;refine sJ @hw ?_
    exact eh ⟨eE,by rw[← hp2];rfl⟩
  ·refine⟨_,⟨_,rfl,.g h3⟩,?_⟩;refine sJ @hw ?_;refine⟨dK (fun _ _ h=>h) (List.nil_sublist _),?_⟩;refine sJ @hw ?_;refine⟨_,dE (cs:=dY p A c (some ⟨ga,0,none⟩) d) (.head _) rfl,?_⟩;refine sJ @hw ?_;refine⟨dK (fun _ _ h=>h) (List.nil_sublist _),?_⟩;refine sJ @hw ?_;refine dI [] _ rfl (by simp[dY,splice]) ⟨rfl,rfl⟩ ?_;refine sJ @hw ?_;refine⟨dK (fun _ _ h=>h) (List.nil_sublist _),?_⟩;refine sJ @hw ?_
   refine dI [] _ rfl (by simp[dY,splice]) ⟨rfl,rfl⟩ ?_;refine sJ @hw ?_;refine⟨dK (fun _ _ h=>h) (List.nil_sublist _),?_⟩;refine sJ @hw ?_;exact eh ⟨eE,by rw[← hp2];rfl⟩
 rintro e h ⟨e0,rfl⟩;refine dz [0] ?_;refine sJ @e0 ?_;intros;try refine dv ?_
 intros;refine gr 43 45 ?_;refine sJ c91r8.eq_1 ?_;rw[← List.append_nil (PtL p2 x A c (some ⟨ga,0,none⟩) d ys zs)];refine(hraise _ _).mono ?_;rintro r' h' ⟨G2,L',rfl,hg2,rfl,zs',rfl,hz'⟩;rw[List.append_nil];refine sI ?_;intros;try refine dv ?_
 intros;refine gr 0 0 ?_;refine sJ c91r9.eq_1 ?_;intros;refine dC (dG _ rfl (List.Sublist.refl _) eg (uP ?_ hz' (kC hi2)));rw[(ea p2).2.2.2.1,← hp2];exact hy
theorem nM(p:Pt)(cs:List Value)(n:Int)(G:Nat→Option Obj)(hp:PE G p cs)(hsm:smP p)(hn:I64 n):FnD Tryz.prog 37 #[.agg cs.toArray,.int .i64 n] G (PtR (ofP p n (fL n))):=by
 have hp0:=hp;obtain⟨A,c,B,d,rfl,-,-,hI⟩:=hp;refine F37.fnD (by simp) (dF ?_);unfold c37;unfold dY at hp0 ⊢;intros;refine gr 0 0 ?_;refine sJ c37r0.eq_1 ?_;intro b3 hb3;refine sI ?_;intros;refine ed (ec [_] _) ?_;rintro h' ⟨G1,rfl,hg1,f3⟩;have f3:=f3 0 _ rfl;rw[es]at f3
 have hof:=uR p _ n 91 #[.pointer (some ⟨b3,0,none⟩)] (fL n p) G1 (hp0.le hg1) hsm hn fun hok k r _ hr=>uK p n b3 k r G1 hok hsm hI hn f3 hr
 rw[← je]at hof;intros;refine gr 6 12 ?_;refine sJ c37r1.eq_1 ?_;refine⟨_,⟨_,rfl,.g f3⟩,?_⟩;refine sI ?_;refine(hof _ _).mono ?_;rintro r h' ⟨G2,rfl,hg2,cs2,rfl,hpe⟩;have hpe0:=hpe;obtain⟨A2,c2,B2,d2,rfl,-⟩:=hpe;unfold dY at hpe0 ⊢;refine sI ?_;intros;refine rV ?_;simp only[push_cast,Nat.reduceBEq];exact⟨_,rfl,hpe0⟩
theorem F140:Fun Tryz.prog 140 42 v140 c140 o140:=Fun.mkA Tryz.func140 Tryz.ntmps140
theorem F87:Fun Tryz.prog 87 15 v87 c87 o87:=Fun.mkA Tryz.func87 Tryz.ntmps87
theorem F141:Fun Tryz.prog 141 7 v141 c141 o141:=Fun.mkA Tryz.func141 Tryz.ntmps141
theorem F44:Fun Tryz.prog 44 12 v44 c44 o44:=Fun.mkA Tryz.func44 Tryz.ntmps44
theorem F102:Fun Tryz.prog 102 36 v102 c102 o102:=Fun.mkA Tryz.func102 Tryz.ntmps102
theorem mY{G:Nat→Option Obj}{L:List Kx.Item}{D:List Nat}{A:Option Addr}{n m c et sz:Nat}{ys:List Value}(hm:m≤n):iu ⟨G,.row (.slice A n c) et sz n ys :: L,D⟩ ⟨G,.row (.slice A m c) et sz m (ys.take (m * sz)) :: L,D⟩:=fun β w hs=>by
 have h:=jo (L1:=[]) (it':=.row (.slice A m c) et sz m (ys.take (m * sz))) (w':=w) hs rfl rfl rfl (Nat.le_refl _) (fun _ _ _=>rfl) (by
   obtain⟨hl,hok⟩:=hs.l _ (List.mem_cons_self ..)
   have hms:m * sz≤n * sz:=Nat.mul_le_mul_right _ hm
   refine⟨by rw[List.length_take,hl];omega,?_⟩
   rcases hok with⟨A0,he,h0⟩ | ⟨g,cap,cur,he,h1,h2,h3,h4,h5,h6⟩
   · cases he
     exact .inl ⟨A, by have : m = 0 := by omega
                       subst this;rfl,by omega⟩
   · cases he
     refine .inr ⟨g,c,cur,rfl,h1,h2,by omega,h4,h5,?_⟩
     rw[← h6,List.take_take,Nat.min_eq_left hms]) (fun b hb=>.inl (by
   cases A <;> exact hb))
 exact⟨h.1,h.2,rfl,fun s cs hh=>⟨cs,by simpa using hh⟩⟩
theorem zl{l:List Int}{i:Nat}{v:Int}(h:i < l.length):(l.set i v).take (i+1)=l.take i++[v]:=by
 rw[List.take_add_one,List.getElem?_set_self h];congr 1;exact List.take_set_of_le (Nat.le_refl _)
theorem sZ(l:List Int)(p:Int→Bool)(f:Nat)(cap:Array Value)(A:Option Addr)(c:Nat)(ys:List Value)(G:Nat→Option Obj)(hy:Cells IE 1 l ys)(hf:∀ G',Gle G G'→∀ s,s∈l→I64 s→FnS Tryz.prog f (#[.int .i64 s]++cap) G' (.bool (p s))):
  FnO Tryz.prog 140 #[.slice A l.length c,.func (.func f) #[] cap] G [.row (.slice A l.length c) 3 1 l.length ys] (fun _ L' r=>∃ A' c' ys',r=.slice A' (l.filter fun s=>!p s).length c'∧Cells IE 1 (l.filter fun s=>!p s) ys'∧L'=[.row r 3 1 (l.filter fun s=>!p s).length ys']):=by
 refine F140.fnO (by simp) (dw dt) (dF ?_);unfold c140;intros;refine gr 0 0 ?_;refine sJ c140r0.eq_1 ?_;intros;refine gr 8 11 ?_;refine sJ c140r1.eq_1 ?_
 refine(iE (L1:=[_]) (L:=[]) (R:=fun r=>r=.int .i64 (fE p l 0)) (M:=fun G=>SlV G IE 1 (.slice A l.length c) l) (dw dt) F109.enters (List.Perm.refl _) (jm (M1:=fun G=>SlV G IE 1 (.slice A l.length c) l) (fun L=>kn (by decide) hy) fun G' _ h=>ml h) fun G' hg hp=>nK l p f cap _ G' hp (hf G' hg) [] []).mono ?_;rintro _ _ ⟨rfl,rfl⟩;refine sI ?_;intros;try refine dv ?_
 rcases ky p l 0 with⟨q1,q2⟩ | ⟨k,x,q1,q2,q3,q4⟩
 ·rw[q1];intros;try refine dv ?_
  have hd:decide ((-1:Int)=-1)=true:=by decide
  intros;refine gr 11 12 ?_;refine sJ2 c140r2.eq_1 @hd ?_;intros;refine gc ?_;refine sI ?_;have hfl:(l.filter fun s=>!p s)=l:=List.filter_eq_self.2 fun s hs=>by rw[q2 s hs];rfl
  intros;refine gr 13 14 ?_;refine sJ c140r3.eq_1 ?_;intros;refine dC (dG _ rfl (List.Sublist.refl _) (dw dt) ⟨A,c,ys,?_,?_,?_⟩)
  ·rw[hfl];rfl
  ·rw[hfl];exact hy
  ·rw[hfl];rfl
 rw[q1,Nat.zero_add];have hkl:=(List.getElem?_eq_some_iff.1 q2).1;refine ed (kq (.head _) (by omega)) ?_;rintro h' ⟨rfl,g,c9,he,hlc,hmx⟩;cases he;unfold maxLen at hmx;have hd:decide ((k:Int)=-1)=false:=by simp
 have hw0:IntKind.i64.wrap ((k:Int)+1)=(k:Int)+1:=by rw[dU] <;> omega
 intros;try refine dv ?_
 intros;refine gr 11 12 ?_;refine sJ2 c140r2.eq_1 @hd ?_;intros;refine gc ?_;refine sI ?_;intros;refine gN ?_;intros;try refine dv ?_
 intros;refine gr 14 16 ?_;refine sJ2 c140r4.eq_1 @hw0 ?_
 (intros;try refine du ?_)
 refine dW (fun e h=>∃ (i j:Nat) (cur:List Int) (ys':List Value),(i < j∧j≤l.length)∧(cur.length=l.length∧Cells IE 1 cur ys')∧(cur.take i=(l.take j).filter (fun s=>!p s)∧cur.drop j=l.drop j)∧e 5=.int .i64 i∧e 6=.int .i64 j∧e 0=.slice (some ⟨g,0,none⟩) l.length c∧e 1=.func (.func f) #[] cap∧h=⟨G,[.row (.slice (some ⟨g,0,none⟩) l.length c) 3 1 l.length ys'],[]⟩) (fun e h=>l.length - iv (e 6)) ?_ ?_
 ·refine⟨k,k+1,l,ys,⟨by omega,by omega⟩,⟨rfl,hy⟩,⟨?_,rfl⟩,eE,eE,eE,eE,rfl⟩;rw[ew q2,List.filter_append,List.filter_eq_self.2 (fun s hs=>by rw[q4 s hs];rfl)];simp[q3]
 rintro e h ⟨i,j,cur,ys',⟨hij,hjn⟩,⟨hcl,hy'⟩,⟨ht,hdr⟩,e5,e6,e0,e1,rfl⟩;refine dz [0,1,5,6] ?_;refine sJ4 @e0 @e1 @e5 @e6 ?_;intros;refine gr 16 19 ?_;refine sJ c140r5.eq_1 ?_;intros;refine gc ?_;refine sI ?_;refine gb (fun h1=>?_) (fun h1=>?_)
 ·have h1:j < l.length:=by have:=of_decide_eq_true h1;omega
  have hw:IntKind.i64.wrap ((j:Int)+1)=(j:Int)+1:=by rw[dU] <;> omega
  obtain⟨v,hv⟩:∃ v,l[j]?=some v:=⟨l[j],List.getElem?_eq_getElem h1⟩;have hcv:cur[j]?=some v:=by
   have:(cur.drop j)[0]?=(l.drop j)[0]?:=by rw[hdr]
   simpa [List.getElem?_drop,hv]using this
  obtain⟨cs,⟨rfl,hvi⟩,-,hld⟩:=hy'.get hcv;have hld:=hld 0 _ rfl;rw[Nat.add_zero]at hld;have hlj:ys'.length=l.length * 1:=by rw[hy'.len,hcl]
  have htk:=ew hv;have hbk:∀ (cur2:List Int) (ys2:List Value) (i2:Nat) (e:Env),(i2 < j+1)→cur2.length=l.length→Cells IE 1 cur2 ys2→cur2.take i2=(l.take (j+1)).filter (fun s=>!p s)→cur2.drop (j+1)=l.drop (j+1)→e 5=.int .i64 i2→e 6=.int .i64 j→e 0=.slice (some ⟨g,0,none⟩) l.length c→e 1=.func (.func f) #[] cap →
    go none Tryz.prog 42 v140.1 v140.2 (fW o140 fun v h=>∃ A' c' ys',v=.slice A' (l.filter fun s=>!p s).length c'∧Cells IE 1 (l.filter fun s=>!p s) ys'∧h.L=[.row v 3 1 (l.filter fun s=>!p s).length ys'])
    [Td.s (SC.reg false c140r10),Td.l fun e' h'=>(∃ (i j:Nat) (cur:List Int) (ys':List Value),(i < j∧j≤l.length)∧(cur.length=l.length∧Cells IE 1 cur ys')∧(cur.take i=(l.take j).filter (fun s=>!p s)∧cur.drop j=l.drop j)∧e' 5=.int .i64 i∧e' 6=.int .i64 j∧e' 0=.slice (some ⟨g,0,none⟩) l.length c∧e' 1=.func (.func f) #[] cap∧h'=⟨G,[.row (.slice (some ⟨g,0,none⟩) l.length c) 3 1 l.length ys'],[]⟩)∧l.length - iv (e' 6) < l.length - j,Td.b 0,Td.s ((SC.reg false c140r11).seq ((SC.reg false c140r12).seq SC.ret))] e ⟨G,[.row (.slice (some ⟨g,0,none⟩) l.length c) 3 1 l.length ys2],[]⟩:=fun cur2 ys2 i2 e a1 a2 a3 a4 a5 b5 b6 b0 b1=>by
   refine dz [0,1,5,6] ?_;refine sJ4 @b0 @b1 @b5 @b6 ?_;intros;refine gr 20 22 ?_;refine sJ2 c140r10.eq_1 @hw ?_
   (intros;try refine du ?_)
   refine eh ⟨⟨i2,j+1,cur2,ys2,⟨a1,by omega⟩,⟨a2,a3⟩,⟨a4,a5⟩,eE,eE,eE,eE,rfl⟩,?_⟩;refine sI ?_;omega
  intros;refine gN ?_;intros;refine gr 22 26 ?_;refine sJ c140r6.eq_1 ?_;refine⟨by omega,_,rfl,?_⟩;refine sJ @Nat.zero_add ?_;refine⟨_,eR (.head _) hld,?_⟩;refine sI ?_;intros;try refine dv ?_
  intros;refine gr 26 29 ?_;refine sJ c140r7.eq_1 ?_;refine .inl ⟨f,cap,rfl,?_⟩;refine(hf G (.refl G) v (List.mem_of_getElem? hv) hvi _ _).mono ?_;rintro _ _ ⟨rfl,rfl⟩;refine sI ?_;intros;refine gc ?_;refine sI ?_;refine gb (fun h2=>?_) (fun h2=>?_)
  ·have h2:p v=false:=by simpa using h2
   have hwi:IntKind.i64.wrap ((i:Int)+1)=(i:Int)+1:=by rw[dU] <;> omega
   intros;try refine dv ?_
   intros;refine gr 30 34 ?_;refine sJ c140r8.eq_1 ?_;refine⟨by omega,_,rfl,?_⟩;refine sJ @Nat.zero_add ?_;refine fF [] _ rfl (by simp;omega) ⟨rfl,rfl⟩ ?_;refine sI ?_;intros;refine gr 34 36 ?_;refine sJ2 c140r9.eq_1 @hwi ?_;intros;refine gN ?_
   refine hbk (cur.set i v) _ (i+1) _ (by omega) (by rw[List.length_set,hcl]) (Cells.set hy' (by omega) ⟨rfl,hvi⟩ rfl) ?_ ?_ (by((refine sI ?_;try with_reducible exact True.intro))) (by((refine sI ?_;try with_reducible exact True.intro))) (by((refine sI ?_;try with_reducible exact True.intro))) (by((refine sI ?_;try with_reducible exact True.intro)))
   ·rw[zl (by omega),ht,htk,List.filter_append];simp[h2]
   ·rw[List.drop_set_of_lt (by omega)];have:(cur.drop j).drop 1=(l.drop j).drop 1:=by rw[hdr]
    simpa [List.drop_drop]using this
  ·have h2:p v=true:=by simpa using h2
   intros;refine gN ?_;refine hbk cur ys' i _ (by omega) hcl hy' ?_ ?_ (by((refine sI ?_;try with_reducible exact True.intro))) (by((refine sI ?_;try with_reducible exact True.intro))) (by((refine sI ?_;try with_reducible exact True.intro))) (by((refine sI ?_;try with_reducible exact True.intro)))
   ·rw[ht,htk,List.filter_append];simp[h2]
   ·have:(cur.drop j).drop 1=(l.drop j).drop 1:=by rw[hdr]
    simpa [List.drop_drop]using this
 ·have h1:j=l.length:=by have:=of_decide_eq_false h1;omega
  subst h1;rw[List.take_length]at ht;refine dT ?_;refine sI ?_;intros;refine gr 36 39 ?_;refine sJ2 c140r11.eq_1 @HC ?_;have hne:¬ c=i:=by omega
  have hl2:(l.filter fun s=>!p s).length=i:=by rw[← ht,List.length_take];omega
  have hzl:(Builtin.zeroCells #[.int .i64 0] (l.length - i)).toList.length=l.length - i:=by rw[Array.length_toList,size_zeroCells];simp
  have hyl:ys'.length=l.length:=by rw[hy'.len,hcl,Nat.mul_one]
  refine⟨by omega,?_⟩;rw[if_neg hne,Nat.zero_add,Nat.mul_one];generalize hzs:(Builtin.zeroCells #[.int .i64 0] (l.length - i)).toList=zz at hzl;refine⟨_,_,_,_,rfl,.inr ⟨g,i,⟨rfl,by simp[Value.oneCell']⟩,by rw[hzs];exact .row [] (by omega)⟩,?_⟩;refine sI ?_;intros;refine gr 39 42 ?_;refine sJ c140r12.eq_1 ?_;refine⟨by omega,?_⟩;refine sI ?_;intros;refine dx (mY (m:=i) (by omega)) ?_
  refine dC (dG _ rfl (List.Sublist.refl _) (dw dt) ⟨some ⟨g,0,none⟩,c,ys'.take (i * 1),?_,?_,?_⟩)
  ·rw[hl2];rfl
  ·rw[← ht];exact(hy'.split i (by omega)).1
  ·rw[hl2];have:(splice ys' i zz).take (i * 1)=ys'.take (i * 1):=by
    rw[Nat.mul_one,splice,List.append_assoc,List.take_append_of_le_length (by rw[List.length_take];omega),List.take_take,Nat.min_self]
   rw[this];rfl
theorem C4(n m:Int)(b:Nat)(G:Nat→Option Obj)(h:eT G ⟨b,0,none⟩=some (.int .i64 n)):FnS Tryz.prog 141 #[.int .i64 m,.pointer (some ⟨b,0,none⟩)] G (.bool (decide (m=n))):=by
 refine F141.fnS (by simp) (dF ?_);unfold c141;intros;refine gr 0 0 ?_;refine sJ c141r0.eq_1 ?_;intros;refine gr 4 7 ?_;refine sJ c141r1.eq_1 ?_;refine⟨_,⟨_,rfl,.g h⟩,?_⟩;refine sI ?_;intros;refine rV ?_;simp only[push_cast,Nat.reduceBEq]
theorem Ad(p:Pt)(x:Nat)(A:Option Addr)(c:Nat)(B:Option Addr)(d:Nat)(ys zs:List Value):
  (PtL p x A c B d ys zs).Perm ([Kx.Item.row (.slice A p.isr.length c) 3 1 p.isr.length ys]++[Kx.Item.blk x (dY p A c B d),Kx.Item.row (.slice B p.reps.length d) 50 7 p.reps.length zs]) :=
 List.perm_append_comm (l₁:=[Kx.Item.blk x (dY p A c B d),Kx.Item.row (.slice B p.reps.length d) 50 7 p.reps.length zs]) (l₂:=[Kx.Item.row (.slice A p.isr.length c) 3 1 p.isr.length ys])
def r7(p:Pt)(n:Int):Pt:={ p with isr:=p.isr.filter fun m=>decide (m≠n) }
theorem zU(p:Pt)(n:Int)(x:Nat)(A:Option Addr)(c:Nat)(B:Option Addr)(d:Nat)(ys zs:List Value)(G:Nat→Option Obj)(hy:Cells IE 1 p.isr ys):
  FnO Tryz.prog 87 #[.pointer (some ⟨x,0,none⟩),.int .i64 n] G (PtL p x A c B d ys zs) (fun G' L' r=>r=.tuple #[]∧∃ A' c' ys',L'=PtL (r7 p n) x A' c' B d ys' zs∧Cells IE 1 (r7 p n).isr ys'):=by
 have hfe:(p.isr.filter fun s=>!decide (s=n))=(r7 p n).isr:=List.filter_congr fun s _=>by simp
 refine F87.fnO (by simp) eg (dF ?_);unfold c87;intros;refine gr 0 0 ?_;refine sJ c87r0.eq_1 ?_;intro b3 hb3;refine sI ?_;intros;refine ed (ec [] _) ?_;rintro h' ⟨G1,rfl,hg1,f3⟩;have f3:=f3 0 _ rfl;rw[es]at f3;intros;refine gr 4 15 ?_;refine sJ c87r1.eq_1 ?_;refine⟨_,dE (cs:=dY p A c B d) (.head _) rfl,?_⟩;refine sI ?_
 have hdel:=sZ p.isr (fun m=>decide (m=n)) 141 #[.pointer (some ⟨b3,0,none⟩)] A c ys G1 hy fun G' hg s hs hi=>C4 n s b3 G' (dJ hg f3)
 refine ee.ghost (h':=⟨G1,[.row (.slice A p.isr.length c) 3 1 p.isr.length ys]++[.blk x (dY p A c B d),.row (.slice B p.reps.length d) 50 7 p.reps.length zs],[]⟩) (d7 (Ad p x A c B d ys zs)) ?_;refine(hdel _ _).mono ?_;rintro r h' ⟨G2,L',rfl,hg2,A',c',ys',rfl,hy2,rfl⟩;rw[hfe]at hy2 ⊢;refine sI ?_;refine dI [_] _ rfl (by simp[dY]) ⟨rfl,rfl⟩ ?_;refine sI ?_;intros
 exact fN ⟨[],rfl,⟨G2,PtL (r7 p n) x A' c' B d ys' zs,[]⟩,d7 (Ad (r7 p n) x A' c' B d ys' zs).symm,eg,rfl,A',c',ys',rfl,hy2⟩
theorem rX{p:Pt}(n:Int)(h:∀ m∈p.isr,m∈fM p.reps):∀ m∈(r7 p n).isr,m∈fM (r7 p n).reps:=fun m hm=>h m (List.mem_filter.1 hm).1
theorem zk(p:Pt)(n:Int)(b3 k:Nat)(r:Rp)(G:Nat→Option Obj)(hok:okP p)(hsm:smP p)(hI:qp p)(hn:I64 n)(h3:eT G ⟨b3,0,none⟩=some (.int .i64 n))(hr:p.reps[k]?=some r):
  nm G 102 #[.pointer (some ⟨b3,0,none⟩)] p k (iY n p k r):=by
 intro G1 x A c ga d ys zs hg hy hz;have h3:=dJ hg h3;rw[show(#[.pointer (some ⟨x,0,none⟩),.pointer (some ⟨ga,k * 7,none⟩)]++#[.pointer (some ⟨b3,0,none⟩)]:Array Value)=#[.pointer (some ⟨x,0,none⟩),.pointer (some ⟨ga,k * 7,none⟩),.pointer (some ⟨b3,0,none⟩)]from rfl];refine F102.fnO (by simp) eg (dF ?_);unfold c102;intros;refine gr 0 0 ?_;refine sJ c102r0.eq_1 ?_
 (intros;try refine du ?_)
 intros;refine gr 7 13 ?_;refine sJ c102r1.eq_1 ?_;refine⟨_,dE (cs:=dY p A c (some ⟨ga,0,none⟩) d) (.head _) rfl,?_⟩;refine sI ?_;intros;refine gc ?_;refine sI ?_;refine gb (fun k1=>?_) (fun k1=>?_)
 ·have k1:=of_decide_eq_true k1;intros;refine gr 0 0 ?_;refine sJ c102r2.eq_1 ?_;intros;refine dC (dG [] rfl (List.nil_sublist _) dt ?_);rw[iY,if_pos k1];exact ou x _ (by decide)
 have k1:=of_decide_eq_false k1;have hno:n=p.leader∨n∉p.isr→∀ (fr:List Td) (e:Env) (h:H),go none Tryz.prog 36 v102.1 v102.2 (fW o102 fun v h=>yH (iY n p k r) x (· = []) h.G h.L v) (Td.s ((SC.reg false c102r4).seq .ret) :: fr) e h:=fun h fr e h=>by
  intros;refine gr 0 0 ?_;refine sJ c102r4.eq_1 ?_;intros;refine dC (dG [] rfl (List.nil_sublist _) dt ?_);rw[iY,if_neg k1,if_pos ‹_›];exact ou x _ (by decide)
 intros;try refine dv ?_
 (intros;try refine du ?_);refine o3 _ (List.Sublist.refl _) (by decide) ?_;refine sJ c102r3.eq_1 ?_
 refine⟨_,⟨_,rfl,.g h3⟩,?_⟩;refine sI ?_;refine⟨_,dE (cs:=dY p A c (some ⟨ga,0,none⟩) d) (.head _) rfl,?_⟩;refine sI ?_;refine gx (fun k2=>?_) (fun k2=>?_)
 ·have k2:=of_decide_eq_true k2;refine sI ?_;intros;refine gc ?_;refine sI ?_;exact hno (.inl k2) _ _ _
 have k2:=of_decide_eq_false k2;refine sI ?_;refine⟨_,dE (cs:=dY p A c (some ⟨ga,0,none⟩) d) (.head _) rfl,?_⟩;refine sI ?_;refine⟨_,⟨_,rfl,.g h3⟩,?_⟩;refine sI ?_;refine(lQ p.isr n A c ys _ _ (List.perm_append_comm (l₁:=[_,_]) (l₂:=[_])) hy).mono ?_;rintro _ _ ⟨rfl,rfl⟩;refine sI ?_;intros;refine gc ?_;refine sI ?_;refine gb (fun k3=>?_) (fun k3=>?_)
 ·have k3:n∉p.isr:=by simpa using k3
  exact hno (.inr k3) _ _ _
 have k3:n∈p.isr:=by simpa using k3
 have hq:iY n p k r=(dS (r7 p n),0):=by
  rw[iY,if_neg k1,if_neg (fun h=>by rcases h with h | h;exact k2 h;exact h k3)]
  rfl
 rw[hq];clear hno hq;have hout:=zU p n x A c (some ⟨ga,0,none⟩) d ys zs G1 hy;intros;refine gN ?_;intros;try refine dv ?_
 intros;refine gr 31 34 ?_;refine sJ c102r5.eq_1 ?_;refine⟨_,⟨_,rfl,.g h3⟩,?_⟩;refine sI ?_;rw[← List.append_nil (PtL p x A c (some ⟨ga,0,none⟩) d ys zs)];refine(hout _ _).mono ?_;rintro r' h' ⟨G2,L',rfl,hg2,rfl,A',c',ys',rfl,hy2⟩;rw[List.append_nil];have hraise:=la (r7 p n) x A' c' (some ⟨ga,0,none⟩) d ys' zs G2 hy2 (eG hz fun _ _ h=>RE.le hg2 h) (gz (p:=p) hok) (rX n hok.2.1.2) (pV hsm.1) hI
 refine sI ?_;intros;try refine dv ?_
 intros;refine gr 34 36 ?_;refine sJ c102r6.eq_1 ?_;rw[← List.append_nil (PtL (r7 p n) x A' c' (some ⟨ga,0,none⟩) d ys' zs)];refine(hraise _ _).mono ?_;rintro r' h' ⟨G3,L',rfl,hg3,rfl,zs',rfl,hz'⟩;rw[List.append_nil];refine sI ?_;intros;try refine dv ?_
 intros;refine gr 0 0 ?_;refine sJ c102r7.eq_1 ?_;intros;refine dC (dG _ rfl (List.Sublist.refl _) eg (uP ?_ hz' (kC (p:=r7 p n) hI)));rw[(ea (r7 p n)).2.2.2.1];exact hy2
theorem xw(p:Pt)(cs:List Value)(n:Int)(G:Nat→Option Obj)(hp:PE G p cs)(hsm:smP p)(hn:I64 n):FnD Tryz.prog 44 #[.agg cs.toArray,.int .i64 n] G (PtR (ofP p n (iY n))):=by
 have hp0:=hp;obtain⟨A,c,B,d,rfl,-,-,hI⟩:=hp;refine F44.fnD (by simp) (dF ?_);unfold c44;unfold dY at hp0 ⊢;intros;refine gr 0 0 ?_;refine sJ c44r0.eq_1 ?_;intro b3 hb3;refine sI ?_;intros;refine ed (ec [_] _) ?_;rintro h' ⟨G1,rfl,hg1,f3⟩;have f3:=f3 0 _ rfl;rw[es]at f3
 have hof:=uR p _ n 102 #[.pointer (some ⟨b3,0,none⟩)] (iY n p) G1 (hp0.le hg1) hsm hn fun hok k r _ hr=>zk p n b3 k r G1 hok hsm hI hn f3 hr
 rw[← je]at hof;intros;refine gr 6 12 ?_;refine sJ c44r1.eq_1 ?_;refine⟨_,⟨_,rfl,.g f3⟩,?_⟩;refine sI ?_;refine(hof _ _).mono ?_;rintro r h' ⟨G2,rfl,hg2,cs2,rfl,hpe⟩;have hpe0:=hpe;obtain⟨A2,c2,B2,d2,rfl,-⟩:=hpe;unfold dY at hpe0 ⊢;refine sI ?_;intros;refine rV ?_;simp only[push_cast,Nat.reduceBEq];exact⟨_,rfl,hpe0⟩
theorem F36:Fun Tryz.prog 36 11 v36 c36 o36:=Fun.mkA Tryz.func36 Tryz.ntmps36
theorem F88:Fun Tryz.prog 88 46 v88 c88 o88:=Fun.mkA Tryz.func88 Tryz.ntmps88
theorem xj{r:Rp}{A:Option Addr}{c:Nat}{B:Option Addr}{d k:Nat}{zs:List Value}(hld:∀ o u,(fH r A c B d)[o]?=some u→zs[k * 7+o]?=some u):∀ j u,(ek r.log A c)[j]?=some u→zs[k * 7+2+j]?=some u:=fun j u hj=>by
 rw[Nat.add_assoc];refine hld (2+j) u ?_
 match j,hj with
 | 0,h=>exact h
 | 1,h=>exact h
 | 2,h=>exact h
 | j+3,h=>cases h
theorem gI{l:List Rp}{k:Nat}{r y:Rp}(h:l[k]?=some r):(l.set k y)[k]?=some y:=List.getElem?_set_self (List.getElem?_eq_some_iff.1 h).1
theorem wG{p:Pt}{k:Nat}{y:Rp}{x:Nat}{G:Nat→Option Obj}{A:Option Addr}{c:Nat}{B:Option Addr}{d:Nat}{ys zs:List Value}(hy:Cells IE 1 p.isr ys)(hz:Cells (RE G) 7 (p.reps.set k y) zs)(hi:qp p):
  yH (fQ p k y,0) x (· = []) G (PtL p x A c B d ys zs) (.int .i64 0):=by
 have:=uP (p:=fQ p k y) (x:=x) (G:=G) (A:=A) (c:=c) (B:=B) (d:=d) hy hz hi
 rwa [mI]at this
theorem xQ(p:Pt)(k:Nat)(r:Rp)(G:Nat→Option Obj)(hok:okP p)(hsm:smP p)(hI:qp p)(hr:p.reps[k]?=some r):nm G 88 #[] p k (jv p k r):=by
 intro G1 x A c ga d ys zs hg hy hz;rw[show(#[.pointer (some ⟨x,0,none⟩),.pointer (some ⟨ga,k * 7,none⟩)]++#[]:Array Value)=#[.pointer (some ⟨x,0,none⟩),.pointer (some ⟨ga,k * 7,none⟩)]from rfl];have hsr:=hsm.1 r (List.mem_of_getElem? hr);have hkl:=(List.getElem?_eq_some_iff.1 hr).1;have hzl:=hz.len;refine F88.fnO (by simp) eg (dF ?_);unfold c88;intros;refine gr 0 0 ?_;refine sJ c88r0.eq_1 ?_
 intros;try refine dv ?_
 obtain⟨cs,hre,hcl,hld⟩:=hz.get hr;obtain⟨A1,c1,B1,d1,rfl,-⟩:=hre;intros;try refine dv ?_
 intros;refine gr 6 9 ?_;refine sJ c88r1.eq_1 ?_;refine⟨_,eR (.tail _ (.head _)) (hld 1 _ rfl),?_⟩;refine sI ?_;intros;refine gc ?_;refine sI ?_;refine gb (fun k1=>?_) (fun k1=>?_)
 ·intros;refine gr 0 0 ?_;refine sJ c88r2.eq_1 ?_;intros;refine dC (dG [] rfl (List.nil_sublist _) dt ?_);rw[jv,if_pos k1];exact ou x _ (by decide)
 have hq:jv p k r=(fQ p k (pk r),0):=by rw[jv,if_neg (by rw[k1];simp)]
 rw[hq];clear hq;have hz1:Cells (RE G1) 7 (p.reps.set k { r with up:=true }) (splice zs (k * 7+1) [.bool true]):=Cells.setF hz hr (by simp) fun cs h hl=>by
  obtain⟨A5,c5,B5,d5,rfl,q⟩:=h;exact⟨A5,c5,B5,d5,rfl,q⟩
 have hr1:=gI (y:={ r with up:=true }) hr;intros;refine gN ?_;intros;refine gr 10 13 ?_;refine sJ c88r3.eq_1 ?_;refine fF [_] _ rfl (by simp;omega) ⟨rfl,rfl⟩ ?_;have hzl1:=hz1.len;rw[List.length_set]at hzl1;clear hld hcl hz;generalize splice zs (k * 7+1) [.bool true]=zs1 at *;obtain⟨cs,hre,hcl,hld⟩:=hz1.get hr1;have hre0:=hre;obtain⟨A1,c1,B1,d1,rfl,q1,q2,q3,q4⟩:=hre
 have hrec:=nq r.log _ G1 ⟨A1,c1,rfl,q1,q3⟩ hsr.1 hsr.2.1;have hldl:=xj hld;unfold ek at hrec hldl;refine sI ?_;intros;try refine dv ?_
 intros;refine gr 13 24 ?_;refine sJ c88r4.eq_1 ?_;refine⟨_,gJ (.tail _ (.head _)) rfl hldl,?_⟩;refine sI ?_;refine(hrec _ _).mono ?_;rintro v h' ⟨G2,rfl,hg2,cs2,rfl,hle⟩;have hle0:=hle;obtain⟨A2,c2,rfl,hsl2,hlim2⟩:=hle;unfold ek;refine sI ?_;refine fF [_] _ rfl (by simp;omega) ⟨rfl,rfl⟩ ?_
 have hz2:Cells (RE G2) 7 (p.reps.set k { r with up:=true,log:=(ia r.log).1 }) (splice zs1 (k * 7+2) (ek (ia r.log).1 A2 c2)):=by
  have:=Cells.setF (E:=RE G2) (o:=2) (us:=ek (ia r.log).1 A2 c2) (x':={ r with up:=true,log:=(ia r.log).1 }) (eG hz1 fun _ _ h=>RE.le hg2 h) hr1 (by simp[ek]) fun cs h hl=>by
   obtain⟨A5,c5,B5,d5,rfl,q1,q2,q3,q4⟩:=h;exact⟨A2,c2,B5,d5,rfl,hsl2,q2,hlim2,q4⟩
  rwa [List.set_set]at this
 unfold ek at hz2;have hr2:=gI (y:={ r with up:=true,log:=(ia r.log).1 }) hr;have hzl2:=hz2.len;rw[List.length_set]at hzl2;clear hld hldl hcl hz1;generalize splice zs1 (k * 7+2) [.int .i64 (ia r.log).1.limit,.int .i64 (ia r.log).1.start,.slice A2 (ia r.log).1.segs.length c2]=zs2 at *;obtain⟨cs,hre,hcl,hld⟩:=hz2.get hr2;have hre1:=hre;obtain⟨A1,c1,B1,d1,rfl,q1,q2,q3,q4⟩:=hre
 have hsm2:=vH hsr.1 hsr.2.1;have hend:=iQ _ _ G2 hre1 hsm2.1 (by have:=hsm2.2;show(ia r.log).1.segs.length≤_;omega);unfold fH at hend;refine sI ?_;intros;try refine dv ?_
 intros;refine gr 24 28 ?_;refine sJ c88r5.eq_1 ?_;refine⟨_,gJ (.tail _ (.head _)) hcl hld,?_⟩;unfold fH;refine sI ?_;refine(hend _ _).mono ?_;rintro _ _ ⟨rfl,rfl⟩;refine sI ?_;have hei:=jY (ia r.log).1;have hbr:pk r=⟨r.id,true,(ia r.log).1,nf r.eps (eD (ia r.log).1),min r.high (eD (ia r.log).1)⟩:=rfl;rw[hbr];have hcut:=Cy r.eps (eD (ia r.log).1) _ G2 q2 (by have:=hsr.2.2;omega)
 generalize eD (ia r.log).1=en at *;intros;try refine dv ?_
 (intros;try refine du ?_);refine qm _ (List.Sublist.refl _) (by decide) ?_;refine sJ c88r6.eq_1 ?_
 refine⟨_,eR (.tail _ (.head _)) (hld 5 _ rfl),?_⟩;refine sI ?_;refine⟨_,eR (.tail _ (.head _)) (hld 6 _ rfl),?_⟩;refine sI ?_;refine(iS (E:=EpE) (et:=151) (sz:=2) hcut _ _).mono ?_;rintro r' h' ⟨G3,L',rfl,hg3,A3,c3,ye,rfl,-,hye,rfl⟩;refine⟨dK hg3 (.cons _ (List.Sublist.refl _)),?_⟩;refine sI ?_;refine fF [_,_] _ rfl (by simp;omega) ⟨rfl,rfl⟩ ?_;refine sI ?_;refine fO ?_;refine sI ?_
 refine fF [_,_] _ rfl (by simp[splice];omega) ⟨rfl,rfl⟩ ?_;refine sI ?_;intros;try refine dv ?_
 refine ed (dQ [] _ (by decide) hye) ?_;rintro h' ⟨G4,rfl,hg4,hv4⟩;have hz3:Cells (RE G4) 7 (p.reps.set k { r with up:=true,log:=(ia r.log).1,eps:=nf r.eps en }) (splice zs2 (k * 7+5) [.slice A3 (nf r.eps en).length c3]):=by
  have:=Cells.setF (E:=RE G4) (o:=5) (us:=[.slice A3 (nf r.eps en).length c3]) (x':={ r with up:=true,log:=(ia r.log).1,eps:=nf r.eps en }) (eG hz2 fun _ _ h=>RE.le (hg3.trans hg4) h) hr2 (by simp) fun cs h hl=>by
   obtain⟨A5,c5,B5,d5,rfl,q1,q2,q3,q4⟩:=h;exact⟨A5,c5,A3,c3,rfl,q1,hv4,q3,q4⟩
  rwa [List.set_set]at this
 have hr3:=gI (y:={ r with up:=true,log:=(ia r.log).1,eps:=nf r.eps en }) hr;have hz4:Cells (RE G4) 7 (p.reps.set k { r with up:=true,log:=(ia r.log).1,eps:=nf r.eps en,high:=min r.high en }) (splice (splice zs2 (k * 7+5) [.slice A3 (nf r.eps en).length c3]) (k * 7+6) [.int .i64 (min r.high en)]):=by
  have:=Cells.setF (E:=RE G4) (o:=6) (us:=[.int .i64 (min r.high en)]) (x':={ r with up:=true,log:=(ia r.log).1,eps:=nf r.eps en,high:=min r.high en }) hz3 hr3 (by simp) fun cs h hl=>by
   obtain⟨A5,c5,B5,d5,rfl,q1,q2,q3,q4,q5⟩:=h;have q5:I64 r.high:=q5;exact⟨A5,c5,B5,d5,rfl,q1,q2,q3,q4,by unfold I64 at q5 ⊢;show _≤min r.high en∧min r.high en≤_;omega⟩
  rwa [List.set_set]at this
 intros;refine gr 0 0 ?_;refine sJ c88r7.eq_1 ?_;intros;exact dC (dG _ rfl (List.Sublist.refl _) eg (wG hy hz4 hI))
theorem rt(p:Pt)(cs:List Value)(n:Int)(G:Nat→Option Obj)(hp:PE G p cs)(hsm:smP p)(hn:I64 n):FnD Tryz.prog 36 #[.agg cs.toArray,.int .i64 n] G (PtR (ofP p n jv)):=by
 have hp0:=hp;obtain⟨A,c,B,d,rfl,-,-,hI⟩:=hp;refine F36.fnD (by simp) (dF ?_);unfold c36;unfold dY at hp0 ⊢;intros;refine gr 0 0 ?_;refine sJ c36r0.eq_1 ?_;have hof:=uR p _ n 88 #[] (jv p) G hp0 hsm hn fun hok k r _ hr=>xQ p k r G hok hsm hI hr
 rw[← je]at hof;intros;refine gr 6 11 ?_;refine sJ c36r1.eq_1 ?_;refine(hof _ _).mono ?_;rintro r h' ⟨G2,rfl,hg2,cs2,rfl,hpe⟩;have hpe0:=hpe;obtain⟨A2,c2,B2,d2,rfl,-⟩:=hpe;unfold dY at hpe0 ⊢;refine sI ?_;intros;refine rV ?_;simp only[push_cast,Nat.reduceBEq];exact⟨_,rfl,hpe0⟩
theorem F35:Fun Tryz.prog 35 14 v35 c35 o35:=Fun.mkA Tryz.func35 Tryz.ntmps35
theorem F85:Fun Tryz.prog 85 81 v85 c85 o85:=Fun.mkA Tryz.func85 Tryz.ntmps85
theorem il{l:List Rp}{k:Nat}{r y:Rp}(hr:l[k]?=some r)(h:y.id=r.id):fM (l.set k y)=fM l:=by
 unfold fM;rw[List.map_set,h];refine List.ext_getElem? fun i=>?_
 rw[List.getElem?_set];split
 ·rename_i he;subst he;rw[List.getElem?_map,hr];have:=(List.getElem?_eq_some_iff.1 hr).1;simp[this]
 ·rfl
theorem mL{l:List Rp}{k:Nat}{r y:Rp}(hr:l[k]?=some r)(h:y.id=r.id)(ho:qu l):qu (l.set k y):=by
 refine⟨by rw[il hr h];exact ho.1,fun z hz=>?_⟩;rcases List.mem_or_eq_of_mem_set hz with hz | rfl
 ·exact ho.2 z hz
 ·rw[h];exact ho.2 r (List.mem_of_getElem? hr)
theorem vh{l:List Rp}{k:Nat}{y:Rp}(h:∀ r∈l,smR r)(hy:smR y):∀ r∈l.set k y,smR r:=fun z hz=>by
 rcases List.mem_or_eq_of_mem_set hz with hz | rfl
 ·exact h z hz
 ·exact hy
theorem wD(s:Sg)(n:Int):(mF s n).bytes.length≤s.bytes.length:=by simp[mF]
theorem yy{l:Lg}{n:Int}(h:smL l.segs):smL (lz l n).segs:=fun s hs=>by
 rcases List.mem_or_eq_of_mem_set hs with hs | rfl
 ·exact h s hs
 ·have h1:=wD (sQ l (l.segs.length - 1)) n;by_cases h2:l.segs=[]
  ·rw[sQ,h2]at h1 ⊢;simp[iU]at h1 ⊢;simp[mF,iU]
  ·obtain⟨s,e1,-⟩:=gE h2;have h3:sQ l (l.segs.length - 1)=s:=by rw[sQ,List.getD_eq_getElem?_getD,e1];rfl
   rw[h3]at h1 ⊢;have:=h s (List.mem_of_getElem? e1);omega
def ix(r:Rp)(n:Int):Rp:={ r with up:=false,log:=lz r.log n }
def eu(p:Pt)(n:Int):Pt:={ p with leader:=if p.leader=n then -1 else p.leader }
def eY(p:Pt)(n:Int):Pt:=if 1 < p.isr.length then r7 p n else p
theorem pz(p:Pt)(n t:Int)(k:Nat)(r:Rp)(h1:¬ t < 0)(h2:r.up=true):gu n t p k r=(dS (fQ (eY (eu p n) n) k (ix r t)),0):=by
 rw[gu,if_neg h1,if_neg (by rw[h2];simp)];unfold eY eu;dsimp only;by_cases h3:1 < p.isr.length
 ·rw[if_pos h3,if_pos h3];rfl
 ·rw[if_neg h3,if_neg h3];rfl
theorem vK(p:Pt)(n t:Int)(b5 b4 k:Nat)(r:Rp)(G:Nat→Option Obj)(hok:okP p)(hsm:smP p)(hI:qp p)(hn:I64 n)(ht:I64 t)(h5:eT G ⟨b5,0,none⟩=some (.int .i64 t))(h4:eT G ⟨b4,0,none⟩=some (.int .i64 n))(hr:p.reps[k]?=some r):
  nm G 85 #[.pointer (some ⟨b5,0,none⟩),.pointer (some ⟨b4,0,none⟩)] p k (gu n t p k r):=by
 intro G1 x A c ga d ys zs hg hy hz;have h5:=dJ hg h5;have h4:=dJ hg h4;rw[show(#[.pointer (some ⟨x,0,none⟩),.pointer (some ⟨ga,k * 7,none⟩)]++#[.pointer (some ⟨b5,0,none⟩),.pointer (some ⟨b4,0,none⟩)]:Array Value)=#[.pointer (some ⟨x,0,none⟩),.pointer (some ⟨ga,k * 7,none⟩),.pointer (some ⟨b5,0,none⟩),.pointer (some ⟨b4,0,none⟩)]from rfl];have hsr:=hsm.1 r (List.mem_of_getElem? hr)
 have hor:=hok.1.2.2.2.2 r (List.mem_of_getElem? hr);have hkl:=(List.getElem?_eq_some_iff.1 hr).1;have hzl:=hz.len;obtain⟨cs,hre,hcl,hld⟩:=hz.get hr;obtain⟨A1,c1,B1,d1,rfl,q1,q2,q3,q4⟩:=hre;refine F85.fnO (by simp) eg (dF ?_);unfold c85;intros;refine gr 0 0 ?_;refine sJ c85r0.eq_1 ?_
 (intros;try refine du ?_)
 intros;refine gr 10 12 ?_;refine sJ c85r1.eq_1 ?_;refine⟨_,⟨_,rfl,.g h5⟩,?_⟩;refine sI ?_;intros;refine gc ?_;refine sI ?_;refine gb (fun k1=>?_) (fun k1=>?_)
 ·have k1:=of_decide_eq_true k1;intros;refine gr 0 0 ?_;refine sJ c85r2.eq_1 ?_;intros;refine dC (dG [] rfl (List.nil_sublist _) dt ?_);rw[gu,if_pos k1];exact ou x _ (by decide)
 have k1:=of_decide_eq_false k1;intros;try refine dv ?_
 intros;refine gr 13 18 ?_;refine sJ c85r3.eq_1 ?_;refine⟨_,eR (.tail _ (.head _)) (hld 1 _ rfl),?_⟩;refine sI ?_;intros;refine gc ?_;refine sI ?_;refine gb (fun k2=>?_) (fun k2=>?_)
 ·have k2:r.up=false:=by simpa using k2
  intros;refine gr 0 0 ?_;refine sJ c85r4.eq_1 ?_;intros;refine dC (dG [] rfl (List.nil_sublist _) dt ?_);rw[gu,if_neg k1,if_pos k2];exact ou x _ (by decide)
 have k2:r.up=true:=by simpa using k2
 rw[pz p n t k r k1 k2];have hlr:nZ r=r.log:=by rw[nZ,if_pos k2]
 have hck:fj r.log=0:=by rw[← hlr];exact hor.2.1
 have hne:=(gY hck).2.1;have hn0:0 < r.log.segs.length:=List.length_pos_iff.2 hne;obtain⟨s,e1,e2,e3⟩:=gE hne;have hcl:=mH r.log.segs _ G1 q1 (by have:=hsr.2.1;omega);intros;refine gN ?_;intros;try refine dv ?_
 intros;refine gr 18 24 ?_;refine sJ c85r5.eq_1 ?_;refine⟨_,eR (.tail _ (.head _)) (hld 4 _ rfl),?_⟩;refine sI ?_;refine(iS hcl _ _).mono ?_;rintro v h' ⟨G2,L',rfl,hg2,A2,c2,ss,rfl,-,hss,rfl⟩;refine sI ?_;intros;try refine dv ?_
 refine ed (kq (.head _) hn0) ?_;rintro h' ⟨rfl,g2,c9,he,-,-⟩;cases he;have hw1:IntKind.i64.wrap ((r.log.segs.length:Int) - 1)=((r.log.segs.length - 1:Nat):Int):=by have:=hsr.2.1;rw[dU] <;> omega
 intros;refine gr 24 29 ?_;refine sJ2 c85r6.eq_1 @hw1 ?_;refine⟨by omega,_,rfl,?_⟩;refine sJ @Nat.zero_add ?_;obtain⟨cs,hse,hcl2,hld2⟩:=hss.get e1;obtain⟨B3,d3,rfl,hsb,hsi⟩:=hse;unfold iB at hld2;have hsbl:=hsr.1 s (List.mem_of_getElem? e1);have hmn:(min t (s.bytes.length:Int)).toNat≤s.bytes.length:=by omega
 have hwm:IntKind.i64.wrap ((s.bytes.length:Int) - min t (s.bytes.length:Int))=((s.bytes.length - (min t (s.bytes.length:Int)).toNat:Nat):Int):=by rw[dU] <;> omega
 have hdm:s.bytes.length≤d3:=by
  obtain⟨_,_,he,h1,h2,_⟩:=hsb;cases he;exact h1
 generalize hmm:s.bytes.length - (min t (s.bytes.length:Int)).toNat=m at *;intros;try refine dv ?_
 (intros;try refine du ?_);refine FL (by decide) ?_;refine sJ c85r7.eq_1 ?_
 refine⟨_,eR (.head _) (hld2 1 _ rfl),?_⟩;refine sI ?_;refine⟨_,eR (.head _) (hld2 1 _ rfl),?_⟩;refine sI ?_;refine⟨_,⟨_,rfl,.g (dJ hg2 h5)⟩,?_⟩;refine sI ?_;refine⟨_,eR (.head _) (hld2 1 _ rfl),?_⟩;refine sJ @hwm ?_;refine⟨by omega,?_⟩;refine sJ c85r8.eq_1 ?_;refine fF [] _ rfl (by simp;have:=hss.len;omega) ⟨rfl,rfl⟩ ?_;refine sI ?_
 have hns:sQ r.log (r.log.segs.length - 1)=s:=by rw[sQ,List.getD_eq_getElem?_getD,e1];rfl
 have htn:mF s t=⟨s.base,s.bytes.take m⟩:=by rw[← hmm];rfl
 have hlen:(ix r t).log.segs.length=r.log.segs.length:=List.length_set ..;have hss2:Cells (SE G2) 2 (ix r t).log.segs (splice ss ((r.log.segs.length - 1) * 2+1) [.slice B3 m d3]):=by
  have:=Cells.setF (E:=SE G2) (o:=1) (us:=[.slice B3 m d3]) (x':=mF s t) (eG hss fun _ _ h=>SE.le hg2 h) e1 (by simp) fun cs h hl=>by
   obtain⟨B5,d5,rfl,h1,h2⟩:=h;have hbl:(s.bytes.take m).length=m:=by rw[List.length_take];omega
   rw[htn];refine⟨B3,d3,?_,?_,h2⟩
   ·show[Value.int .i64 s.base,.slice B3 m d3]=[.int .i64 s.base,.slice B3 (s.bytes.take m).length d3];rw[hbl]
   ·show SB G2 (.slice B3 (s.bytes.take m).length d3) (s.bytes.take m);rw[hbl];exact SlV.pre m (SB.le hsb hg2) (by omega)
  show Cells (SE G2) 2 (r.log.segs.set (r.log.segs.length - 1) (mF (sQ r.log (r.log.segs.length - 1)) t)) _;rw[hns];exact this
 intros;try refine dv ?_
 refine ed (dQ [] _ (by decide) hss2) ?_;rintro h' ⟨G3,rfl,hg3,hv3⟩;have hv3:SlV G3 (SE G3) 2 (.slice (some ⟨g2,0,none⟩) (ix r t).log.segs.length c2) (ix r t).log.segs:=by rw[hlen];exact hv3.le (.refl _) fun _ _ h=>SE.le hg3 h
 have hg13:=hg2.trans hg3;have hz3:Cells (RE G3) 7 (p.reps.set k (ix r t)) (splice (splice zs (k * 7+1) [.bool false]) (k * 7+4) [.slice (some ⟨g2,0,none⟩) r.log.segs.length c2]):=by
  have h1:=Cells.setF (E:=RE G3) (o:=1) (us:=[.bool false]) (x':={ r with up:=false }) (eG hz fun _ _ h=>RE.le hg13 h) hr (by simp) fun cs h hl=>by
   obtain⟨A5,c5,B5,d5,rfl,q⟩:=h;exact⟨A5,c5,B5,d5,rfl,q⟩
  have h2:=Cells.setF (E:=RE G3) (o:=4) (us:=[.slice (some ⟨g2,0,none⟩) r.log.segs.length c2]) (x':=ix r t) h1 (gI hr) (by simp) fun cs h hl=>by
   obtain⟨A5,c5,B5,d5,rfl,q1,q2,q3,q4⟩:=h;refine⟨some ⟨g2,0,none⟩,c2,B5,d5,?_,hv3,q2,q3,q4⟩;rw[← hlen];rfl
  rwa [List.set_set]at h2
 intros;refine gr 50 58 ?_;refine sJ c85r9.eq_1 ?_;refine fF [_] _ rfl (by simp;omega) ⟨rfl,rfl⟩ ?_;refine sI ?_;refine fF [_] _ rfl (by simp[splice];omega) ⟨rfl,rfl⟩ ?_;refine sI ?_;generalize splice (splice zs (k * 7+1) [.bool false]) (k * 7+4) [.slice (some ⟨g2,0,none⟩) r.log.segs.length c2]=zs3 at *;intros;try refine dv ?_
 refine eA (fun e h=>e 0=.pointer (some ⟨x,0,none⟩)∧e 3=.pointer (some ⟨b4,0,none⟩)∧h=⟨G3,PtL (eu p n) x A c (some ⟨ga,0,none⟩) d ys zs3,[]⟩) ?_ ?_
 ·intros;try refine dv ?_
  (intros;try refine du ?_);refine xM 58 64 (by decide) ?_;refine sJ c85r10.eq_1 ?_
  refine⟨_,dE (cs:=dY p A c (some ⟨ga,0,none⟩) d) (.head _) rfl,?_⟩;refine sI ?_;refine⟨_,⟨_,rfl,.g (dJ hg13 h4)⟩,?_⟩;refine sI ?_;intros;refine gc ?_;refine sI ?_;refine gb (fun k3=>?_) (fun k3=>?_)
  ·have k3:=of_decide_eq_true k3;intros;refine gr 65 69 ?_;refine sJ c85r11.eq_1 ?_;refine dI [] _ rfl (by simp[dY]) ⟨rfl,rfl⟩ ?_;refine sI ?_;intros;refine gN ?_;refine eh ⟨eE,eE,?_⟩;unfold eu;rw[if_pos k3];rfl
  ·have k3:=of_decide_eq_false k3;intros;refine gN ?_;refine eh ⟨eE,eE,?_⟩;unfold eu;rw[if_neg k3];rfl
 rintro e h ⟨e0,e3,rfl⟩;refine dz [0,3] ?_;refine sJ2 @e0 @e3 ?_;intros;try refine dv ?_
 refine eA (fun e h=>∃ (G4:Nat→Option Obj) (A':Option Addr) (c':Nat) (ys':List Value),(Gle G3 G4∧Cells IE 1 (eY (eu p n) n).isr ys')∧e 0=.pointer (some ⟨x,0,none⟩)∧h=⟨G4,PtL (eY (eu p n) n) x A' c' (some ⟨ga,0,none⟩) d ys' zs3,[]⟩) ?_ ?_
 ·intros;try refine dv ?_
  intros;refine gr 69 75 ?_;refine sJ c85r12.eq_1 ?_;refine⟨_,dE (cs:=dY (eu p n) A c (some ⟨ga,0,none⟩) d) (.head _) rfl,?_⟩;refine sI ?_;intros;refine gc ?_;refine sI ?_;refine gb (fun k3=>?_) (fun k3=>?_)
  ·have k3:1 < (eu p n).isr.length:=by have:=of_decide_eq_true k3;omega
   have hci:eY (eu p n) n=r7 (eu p n) n:=if_pos k3;rw[hci];have hout:=zU (eu p n) n x A c (some ⟨ga,0,none⟩) d ys zs3 G3 hy;intros;refine gr 76 79 ?_;refine sJ c85r13.eq_1 ?_;refine⟨_,⟨_,rfl,.g (dJ hg13 h4)⟩,?_⟩;refine sI ?_;rw[← List.append_nil (PtL (eu p n) x A c (some ⟨ga,0,none⟩) d ys zs3)];refine(hout _ _).mono ?_;rintro r' h' ⟨G4,L',rfl,hg4,rfl,A',c',ys',rfl,hy4⟩;rw[List.append_nil]
   refine sI ?_;intros;refine gN ?_;exact eh ⟨G4,A',c',ys',⟨hg4,hy4⟩,eE,rfl⟩
  ·have k3:¬ 1 < (eu p n).isr.length:=by have:=of_decide_eq_false k3;omega
   have hci:eY (eu p n) n=eu p n:=if_neg k3;rw[hci];intros;refine gN ?_;exact eh ⟨G3,A,c,ys,⟨.refl _,hy⟩,eE,rfl⟩
 rintro e h ⟨G4,A',c',ys',⟨hg4,hy4⟩,e0,rfl⟩;refine dz [0] ?_;refine sJ @e0 ?_;have hcr:(eY (eu p n) n).reps=p.reps:=by unfold eY;split <;> rfl
 have hcI:qp (eY (eu p n) n):=by
  have h1:I64 (eu p n).leader:=by
   unfold eu;dsimp only;split
   ·unfold I64;decide
   ·exact hI.2.1
  unfold eY;split <;> exact⟨hI.1,h1,hI.2.2⟩
 have hcin:∀ m∈(eY (eu p n) n).isr,m∈fM p.reps:=by
  unfold eY;split
  ·exact rX (p:=eu p n) n hok.2.1.2
  ·exact hok.2.1.2
 generalize eY (eu p n) n=p3 at *;have hset:=mI p3 k (ix r t) x A' c' (some ⟨ga,0,none⟩) d ys' zs3;have hps:(fQ p3 k (ix r t)).reps=p.reps.set k (ix r t):=by show p3.reps.set _ _=_;rw[hcr]
 have hraise:=la (fQ p3 k (ix r t)) x A' c' (some ⟨ga,0,none⟩) d ys' zs3 G4 hy4 (by rw[hps];exact eG hz3 fun _ _ h=>RE.le hg4 h) (by rw[hps];exact mL hr rfl (gz hok))
  (fun m hm=>by rw[hps,il (y:=ix r t) hr rfl];exact hcin m hm) (by rw[hps];exact pV <| vh hsm.1 ⟨yy hsr.1,by rw[hlen];exact hsr.2.1,hsr.2.2⟩) hcI
 rw[hset]at hraise;intros;try refine dv ?_
 intros;refine gr 79 81 ?_;refine sJ c85r14.eq_1 ?_;rw[← List.append_nil (PtL p3 x A' c' (some ⟨ga,0,none⟩) d ys' zs3)];refine(hraise _ _).mono ?_;rintro r' h' ⟨G5,L',rfl,hg5,rfl,zs',rfl,hz'⟩;rw[List.append_nil];refine sI ?_;intros;try refine dv ?_
 intros;refine gr 0 0 ?_;refine sJ c85r15.eq_1 ?_;intros;refine dC (dG _ rfl (List.Sublist.refl _) eg (uP ?_ hz' (kC (p:=fQ p3 k (ix r t)) hcI)));rw[(ea (fQ p3 k (ix r t))).2.2.2.1];exact hy4
theorem sA(p:Pt)(cs:List Value)(n t:Int)(G:Nat→Option Obj)(hp:PE G p cs)(hsm:smP p)(hn:I64 n)(ht:I64 t):FnD Tryz.prog 35 #[.agg cs.toArray,.int .i64 n,.int .i64 t] G (PtR (ofP p n (gu n t))):=by
 have hp0:=hp;obtain⟨A,c,B,d,rfl,-,-,hI⟩:=hp;refine F35.fnD (by simp) (dF ?_);unfold c35;unfold dY at hp0 ⊢;intros;refine gr 0 0 ?_;refine sJ c35r0.eq_1 ?_;intro b4 hb4 b5 hb5;refine sI ?_;intros;refine ed (ec [_] _) ?_;rintro h' ⟨G1,rfl,hg1,f5⟩;refine ed (ec [_] _) ?_;rintro h' ⟨G2,rfl,hg2,f4⟩;have f5:=dJ hg2 (f5 0 _ rfl);have f4:=f4 0 _ rfl;rw[es]at f4 f5
 have hof:=uR p _ n 85 #[.pointer (some ⟨b5,0,none⟩),.pointer (some ⟨b4,0,none⟩)] (gu n t p) G2 (hp0.le (hg1.trans hg2)) hsm hn fun hok k r _ hr=>vK p n t b5 b4 k r G2 hok hsm hI hn ht f5 f4 hr
 rw[← je]at hof;intros;refine gr 8 14 ?_;refine sJ c35r1.eq_1 ?_;refine⟨_,⟨_,rfl,.g f4⟩,?_⟩;refine sI ?_;refine(hof _ _).mono ?_;rintro r h' ⟨G2,rfl,hg2,cs2,rfl,hpe⟩;have hpe0:=hpe;obtain⟨A2,c2,B2,d2,rfl,-⟩:=hpe;unfold dY at hpe0 ⊢;refine sI ?_;intros;refine rV ?_;simp only[push_cast,Nat.reduceBEq];exact⟨_,rfl,hpe0⟩
theorem F25:Fun Tryz.prog 25 19 v25 c25 o25:=Fun.mkA Tryz.func25 Tryz.ntmps25
theorem F66:Fun Tryz.prog 66 90 v66 c66 o66:=Fun.mkA Tryz.func66 Tryz.ntmps66
theorem E2(x:Batch)(base:Int)(cs:List Value)(G:Nat→Option Obj)(hx:BE G x cs)(hbi:I64 base):FnD Tryz.prog 67 #[.agg cs.toArray,.int .i64 base] G (fun G' r=>∃ cs',r=.tuple #[.agg cs'.toArray,.int .i64 (eW x base).2]∧BE G' (eW x base).1 cs') :=
 FnO.fnD (L1:=[]) (zC x base cs G hx hbi) fun G' L' v ⟨cs',h1,h2⟩ _ L D=>(nT.gx h2).mono fun h' ⟨G2,e,hg,hb⟩=>⟨G2,e,hg,cs',h1,hb⟩
theorem su(l:List Ep)(n s:Int):(iI l n s).1.length≤l.length+1:=by
 unfold iI;split
 ·simp
 ·split
  ·simp
  ·repeat' split
   all_goals simp
theorem GH(l:List Ep)(n s:Int)(v:Value)(G:Nat→Option Obj)(hl:SEp G v l)(hb:l.length≤1000000)(in1:I64 n)(is1:I64 s):
  FnO Tryz.prog 70 #[v,.int .i64 n,.int .i64 s] G [] (fun _ L' r=>∃ A c ys,r=.tuple #[.slice A (iI l n s).1.length c,.int .i64 (iI l n s).2]∧Cells EpE 2 (iI l n s).1 ys∧L'=[.row (.slice A (iI l n s).1.length c) 151 2 (iI l n s).1.length ys]):=fun L D =>
 (Cw l n s v G hl hb in1 is1 L D).gx fun v h' ⟨G',L',he,hg,u,hr,ys,hc,hL⟩=>by
  subst he hL;exact(gK (.head _)).mono fun h' ⟨h1,A,c,h2,h3,h4⟩=>⟨G',_,h1,hg,A,c,ys,by rw[hr,h2],hc,by rw[h2]⟩
def C8(q:(Pt × Int) × Int)(bb:Nat)(C:List Kx.Item):Prop:=∃ v,C=[.blk bb [.int .i64 v]]∧(q.1.2=0→v=q.2)
theorem qL(p:Pt)(b:Batch)(cb:List Value)(b3 bb:Nat)(G:Nat→Option Obj)(hok:okP p)(hsm:smP p)(hI:qp p)(hb:BE G b cb)(h3:∀ j u,cb[j]?=some u→eT G ⟨b3,j,none⟩=some u):
  Di G 66 #[.pointer (some ⟨b3,0,none⟩),.pointer (some ⟨bb,0,none⟩)] p (jI b p).1 [.blk bb [.int .i64 0]] (C8 (jI b p) bb):=by
 intro G1 x A c B d ys zs hg hy hz;have hb:=BE.le hg hb;have h3:∀ j u,cb[j]?=some u→eT G1 ⟨b3,j,none⟩=some u:=fun j u h=>dJ hg (h3 j u h)
 rw[show(#[.pointer (some ⟨x,0,none⟩)]++#[.pointer (some ⟨b3,0,none⟩),.pointer (some ⟨bb,0,none⟩)]:Array Value)=#[.pointer (some ⟨x,0,none⟩),.pointer (some ⟨b3,0,none⟩),.pointer (some ⟨bb,0,none⟩)]from rfl];have hn0:dO (PtL p x A c B d ys zs++[.blk bb [.int .i64 0]]):=dA (dw (dw (dA dt)))
 have herr:∀ (e v:Int) (q:Pt) (G':Nat→Option Obj),e≠0→∀ w,jI b p=((q,e),w)→yH (jI b p).1 x (C8 (jI b p) bb) G' [.blk bb [.int .i64 v]] (.int .i64 e):=fun e v q G' he w hq=>by
  rw[hq];exact⟨rfl,[],_,rfl,⟨v,rfl,fun h=>absurd h he⟩,fun _=>rfl,fun h=>absurd h he⟩
 refine F66.fnO (by simp) hn0 (dF ?_);unfold c66;intros;refine gr 0 0 ?_;refine sJ c66r0.eq_1 ?_;intros;try refine dv ?_
 intros;try refine dv ?_
 intros;refine gr 8 13 ?_;refine sJ c66r1.eq_1 ?_;refine⟨_,dE (cs:=dY p A c B d) (.head _) rfl,?_⟩;refine sI ?_;intros;refine gc ?_;refine sI ?_;refine gb (fun k1=>?_) (fun k1=>?_)
 ·have k1:=of_decide_eq_true k1;intros;refine gr 0 0 ?_;refine sJ c66r2.eq_1 ?_;intros;refine dC (dG [.blk bb [.int .i64 0]] rfl (by simp[PtL]) (dA dt) (herr 180 0 p _ (by decide) 0 ?_));rw[jI,if_pos k1]
 have k1:=of_decide_eq_false k1;intros;refine gN ?_;intros;try refine dv ?_
 intros;try refine dv ?_
 (intros;try refine du ?_);refine xM 14 25 (by decide) ?_;refine sJ c66r3.eq_1 ?_
 refine⟨_,dE (cs:=dY p A c B d) (.head _) rfl,?_⟩;refine sI ?_;refine⟨_,dE (cs:=dY p A c B d) (.head _) rfl,?_⟩;refine sI ?_;intros;refine gc ?_;refine sI ?_;refine gb (fun k2=>?_) (fun k2=>?_)
 ·have k2:=of_decide_eq_true k2;intros;refine gr 0 0 ?_;refine sJ c66r4.eq_1 ?_;intros;refine dC (dG [.blk bb [.int .i64 0]] rfl (by simp[PtL]) (dA dt) (herr 181 0 p _ (by decide) 0 ?_));rw[jI,if_neg k1,if_pos k2]
 have k2:=of_decide_eq_false k2
 -- the leader is there
 obtain⟨r0,hr0,hl0,hu0⟩:∃ r∈p.reps,r.id=p.leader∧r.up=true:=by
  rcases hok.2.2 with h | ⟨⟨r,hr,h⟩,-⟩
  ·omega
  ·exact⟨r,hr,h⟩
 obtain⟨k,r,hk,hr,hrl⟩:=pi (l:=p.reps) (n:=p.leader) (List.mem_map.2 ⟨r0,hr0,hl0⟩);have hkl:=(List.getElem?_eq_some_iff.1 hr).1;intros;refine gN ?_;refine ed (kq (.tail _ (.head _)) (by omega)) ?_;rintro h' ⟨rfl,ga,c9,he,-,-⟩;cases he;have hpt:ub (some ⟨ga,0,none⟩) (some k)=some ⟨ga,k * 7,none⟩:=congrArg some (gA _ _);intros;try refine dv ?_
 intros;refine gr 26 33 ?_;refine sJ c66r5.eq_1 ?_;refine⟨_,dE (cs:=dY p A c (some ⟨ga,0,none⟩) d) (.head _) rfl,?_⟩;refine sI ?_;refine(sF p x A c (some ⟨ga,0,none⟩) d ys zs p.leader _ [.blk bb [.int .i64 0]] (List.Perm.refl _) hy hz hI.2.1 (gz hok)).mono ?_;rintro _ _ ⟨rfl,rfl⟩;rw[hk,hpt];refine sI ?_;obtain⟨B2,d2,rfl,-⟩:=id hb;obtain⟨cs,hre,hcl,hld⟩:=hz.get hr;have hre0:=hre
 have hsr:=hsm.1 r (List.mem_of_getElem? hr);have hend:=iQ r cs G1 hre hsr.1 (by have:=hsr.2.1;omega);have hei:=jY r.log;have hmov:=E2 b (eD r.log) _ G1 hb (by unfold I64;omega);have happ:jI b p=if (eW b (eD r.log)).2≠0 then((p,(eW b (eD r.log)).2),0)else
   (if (gR r.log { (eW b (eD r.log)).1 with epoch:=p.epoch }).2≠0 then((p,(gR r.log { (eW b (eD r.log)).1 with epoch:=p.epoch }).2),(eW b (eD r.log)).1.base)else
    if (iI r.eps p.epoch (eW b (eD r.log)).1.base).2≠0 then((p,(iI r.eps p.epoch (eW b (eD r.log)).1.base).2),(eW b (eD r.log)).1.base)else
     ((dS (fQ p k { r with log:=(gR r.log { (eW b (eD r.log)).1 with epoch:=p.epoch }).1,eps:=(iI r.eps p.epoch (eW b (eD r.log)).1.base).1 }),0),(eW b (eD r.log)).1.base)):=by
  rw[jI,if_neg k1,if_neg (by omega),hk];dsimp only;rw[hr]
 generalize eD r.log=en at *;generalize hmb:(eW b en).1=mb at *;generalize hme:(eW b en).2=me at *;obtain⟨A1,c1,B1,d1,rfl,q1,q2,q3,q4⟩:=hre;unfold fH at hend;unfold eS at hmov;intros;try refine dv ?_
 refine eA (fun e h=>∃ (G2:Nat→Option Obj) (b6:Nat) (cs6:List Value),(Gle G1 G2∧BE G2 mb cs6)∧e 0=.pointer (some ⟨x,0,none⟩)∧e 2=.pointer (some ⟨bb,0,none⟩)∧e 5=.pointer (some ⟨ga,k * 7,none⟩)∧e 6=.pointer (some ⟨b6,0,none⟩)∧e 7=.int .i64 me∧h=⟨G2,.blk b6 cs6 :: (PtL p x A c (some ⟨ga,0,none⟩) d ys zs++[.blk bb [.int .i64 0]]),[]⟩) ?_ ?_
 ·(intros;try refine du ?_);refine zS _ (List.Sublist.refl _) (by decide) ?_;refine sJ c66r6.eq_1 ?_
  refine⟨_,⟨_,_,rfl,rfl,rfl,fun j u hu=>.g (by rw[gA];exact h3 j u hu)⟩,?_⟩;unfold eS;refine sI ?_;refine⟨_,gJ (.tail _ (.head _)) hcl hld,?_⟩;unfold fH;refine sI ?_;refine⟨?_,?_⟩
  ·refine(hend _ _).mono ?_;rintro _ _ ⟨rfl,rfl⟩;refine sI ?_;refine⟨?_,?_⟩
   ·refine(hmov _ _).mono ?_;rintro r' h' ⟨G2,rfl,hg2,cs6,rfl,hbe⟩;have hbe0:=hbe;obtain⟨B6,d6,rfl,-⟩:=hbe;unfold eS;refine sI ?_;refine⟨lM hg2,?_⟩;refine sI ?_;intro b6 hb6;refine⟨dK hg2 (.cons _ (List.Sublist.refl _)),?_⟩;refine sI ?_;refine dI [] _ rfl (by simp) ⟨rfl,rfl⟩ ?_;refine sI ?_;refine⟨dK hg2 (.cons _ (List.Sublist.refl _)),?_⟩;refine sI ?_
    exact eh ⟨G2,b6,_,⟨hg2,hbe0⟩,eE,eE,eE,eE,eE,rfl⟩
   ·intro b6 hb6;refine⟨dK (fun _ _ h=>h) (.cons _ (List.Sublist.refl _)),?_⟩;refine sI ?_;refine(hmov _ _).mono ?_;rintro r' h' ⟨G2,rfl,hg2,cs6,rfl,hbe⟩;have hbe0:=hbe;obtain⟨B6,d6,rfl,-⟩:=hbe;unfold eS;refine sI ?_;refine⟨dK hg2 (.cons _ (List.Sublist.refl _)),?_⟩;refine sI ?_;refine dI [] _ rfl (by simp) ⟨rfl,rfl⟩ ?_;refine sI ?_;refine⟨dK hg2 (.cons _ (List.Sublist.refl _)),?_⟩;refine sI ?_
    exact eh ⟨G2,b6,_,⟨hg2,hbe0⟩,eE,eE,eE,eE,eE,rfl⟩
  ·intro b6 hb6;refine⟨dK (fun _ _ h=>h) (.cons _ (List.Sublist.refl _)),?_⟩;refine sI ?_;refine(hend _ _).mono ?_;rintro _ _ ⟨rfl,rfl⟩;refine sI ?_;refine⟨dK (fun _ _ h=>h) (.cons _ (List.Sublist.refl _)),?_⟩;refine sI ?_;refine(hmov _ _).mono ?_;rintro r' h' ⟨G2,rfl,hg2,cs6,rfl,hbe⟩;have hbe0:=hbe;obtain⟨B6,d6,rfl,-⟩:=hbe;unfold eS;refine sI ?_;refine⟨dK hg2 (.cons _ (List.Sublist.refl _)),?_⟩
   refine sI ?_;refine dI [] _ rfl (by simp) ⟨rfl,rfl⟩ ?_;refine sI ?_;refine⟨dK hg2 (.cons _ (List.Sublist.refl _)),?_⟩;refine sI ?_;exact eh ⟨G2,b6,_,⟨hg2,hbe0⟩,eE,eE,eE,eE,eE,rfl⟩
 rintro e h ⟨G2,b6,cs6,⟨hg2,hbe⟩,e0,e2,e5,e6,e7,rfl⟩;refine dz [0,2,5,6,7] ?_;refine sJ5 @e0 @e2 @e5 @e6 @e7 ?_;intros;refine gN ?_;intros;try refine dv ?_
 intros;try refine dv ?_
 intros;refine gr 42 43 ?_;refine sJ c66r7.eq_1 ?_;intros;refine gc ?_;refine sI ?_;refine gb (fun k3=>?_) (fun k3=>?_)
 ·have k3:=of_decide_eq_true k3;intros;refine gr 44 45 ?_;refine sJ c66r8.eq_1 ?_;intros;refine dC (dG [.blk bb [.int .i64 0]] rfl (by simp[PtL]) (dA dt) (herr me 0 p _ k3 0 ?_));rw[happ,if_pos k3]
 have k3:me=0:=by simpa using k3
 rw[if_neg (fun h=>h k3)]at happ;obtain⟨B6,d6,rfl,hb6,i1,i2,i3,i4,i5⟩:=hbe;have hbe2:BE G2 { mb with epoch:=p.epoch } (eS { mb with epoch:=p.epoch } (.slice B6 mb.recs.length d6)):=⟨B6,d6,rfl,hb6,i1,i2,i3,hI.1,i5⟩;unfold eS at hbe2 ⊢;intros;refine gN ?_;intros;try refine dv ?_
 (intros;try refine du ?_);refine Dj _ (List.Sublist.refl _) (by decide) ?_;refine sJ c66r9.eq_1 ?_
 refine⟨_,dE (cs:=dY p A c (some ⟨ga,0,none⟩) d) (.tail _ (.head _)) rfl,?_⟩;refine sI ?_;refine⟨_,dE (.head _) rfl,?_⟩;refine sJ c66r10.eq_1 ?_;refine dI [] _ rfl (by simp) ⟨rfl,rfl⟩ ?_;refine sI ?_;refine dI [_,_,_,_] [] rfl (by simp) ⟨rfl,rfl⟩ ?_;refine sI ?_;intros;try refine dv ?_
 refine dx (h':=⟨G2,.blk b6 [.int .i64 mb.base,.int .i64 mb.last,.int .i64 mb.src,.int .i64 p.epoch,.int .i64 mb.pid,.int .i64 mb.gen,.int .i64 mb.seq,.bool mb.txn,.int .i64 mb.ctl,.slice B6 mb.recs.length d6] :: (PtL p x A c (some ⟨ga,0,none⟩) d ys zs++[.blk bb [.int .i64 mb.base]]),[]⟩) (d7 (List.Perm.refl _)) ?_;have hldl:=xj hld
 have hca:=nt r.log { mb with epoch:=p.epoch } _ _ G2 (LE.le hg2 ⟨A1,c1,rfl,q1,q3⟩) hsr.1 hsr.2.1 hbe2;have hmx:=mb.base;unfold ek at hca hldl;dsimp only at hca
 have hb10:∀ j u,([.int .i64 mb.base,.int .i64 mb.last,.int .i64 mb.src,.int .i64 p.epoch,.int .i64 mb.pid,.int .i64 mb.gen,.int .i64 mb.seq,.bool mb.txn,.int .i64 mb.ctl,.slice B6 mb.recs.length d6]:List Value)[j]?=some u→([.int .i64 mb.base,.int .i64 mb.last,.int .i64 mb.src,.int .i64 p.epoch,.int .i64 mb.pid,.int .i64 mb.gen,.int .i64 mb.seq,.bool mb.txn,.int .i64 mb.ctl,.slice B6 mb.recs.length d6]:List Value)[0+j]?=some u:=fun j u h=>by rw[Nat.zero_add];exact h
 generalize hap:gR r.log { mb with epoch:=p.epoch }=ap at *;obtain⟨al,ae⟩:=ap;dsimp only at happ;intros;try refine dv ?_
 intros;try refine dv ?_
 (intros;try refine du ?_);refine qm _ (List.Sublist.refl _) (by decide) ?_;refine sJ c66r11.eq_1 ?_
 refine⟨_,gJ (.tail _ (.tail _ (.head _))) rfl hldl,?_⟩;refine sI ?_;refine⟨_,kE (.head _) rfl hb10,?_⟩;refine sI ?_;refine(hca _ _).mono ?_;rintro v h' ⟨G3,rfl,hg3,cs7,rfl,hle⟩;dsimp only at hle;have hle0:=hle;obtain⟨A7,c7,rfl,hsl7,hlim7⟩:=hle;unfold ek;refine sI ?_;refine fO ?_;refine sI ?_;refine fF [_,_] _ rfl (by simp;have:=hz.len;omega) ⟨rfl,rfl⟩ ?_;refine sI ?_;refine fO ?_;refine sI ?_
 have hz2:Cells (RE G3) 7 (p.reps.set k { r with log:=al }) (splice zs (k * 7+2) [.int .i64 al.limit,.int .i64 al.start,.slice A7 al.segs.length c7]) :=
  Cells.setF (E:=RE G3) (x':={ r with log:=al }) (eG hz fun _ _ h=>RE.le (hg2.trans hg3) h) hr (by simp) fun cs h hl=>by
   obtain⟨A5,c5,B5,d5,rfl,q1,q2,q3,q4⟩:=h;exact⟨A7,c7,B5,d5,rfl,hsl7,q2,hlim7,q4⟩
 refine dx (h':=⟨G3,.blk b6 [.int .i64 mb.base,.int .i64 mb.last,.int .i64 mb.src,.int .i64 p.epoch,.int .i64 mb.pid,.int .i64 mb.gen,.int .i64 mb.seq,.bool mb.txn,.int .i64 mb.ctl,.slice B6 mb.recs.length d6] :: (PtL p x A c (some ⟨ga,0,none⟩) d ys (splice zs (k * 7+2) [.int .i64 al.limit,.int .i64 al.start,.slice A7 al.segs.length c7])++[.blk bb [.int .i64 mb.base]]),[]⟩) (d7 (List.Perm.refl _)) ?_
 generalize splice zs (k * 7+2) [.int .i64 al.limit,.int .i64 al.start,.slice A7 al.segs.length c7]=zs2 at *;intros;try refine dv ?_
 intros;refine gr 65 66 ?_;refine sJ c66r12.eq_1 ?_;intros;refine gc ?_;refine sI ?_;refine gb (fun k4=>?_) (fun k4=>?_)
 ·have k4:=of_decide_eq_true k4;intros;refine gr 67 68 ?_;refine sJ c66r13.eq_1 ?_;intros;refine dC (dG [.blk bb [.int .i64 mb.base]] rfl (by simp[PtL]) (dA dt) (herr ae mb.base p _ k4 mb.base ?_));rw[happ,if_pos k4]
 have k4:ae=0:=by simpa using k4
 rw[if_neg (fun h=>h k4)]at happ;clear hld hldl hcl;have hr2:=gI (y:={ r with log:=al }) hr;obtain⟨cs,hre2,hcl,hld⟩:=hz2.get hr2;obtain⟨A8,c8,B8,d8,rfl,q1,q2,q3,q4⟩:=hre2;have hput:=GH r.eps p.epoch mb.base _ G3 q2 (by have:=hsr.2.2;omega) hI.1 i1;have hpl:=su r.eps p.epoch mb.base;generalize iI r.eps p.epoch mb.base=pp at *;obtain⟨pl,pe⟩:=pp;dsimp only at happ hput hpl;intros;refine gN ?_
 intros;try refine dv ?_
 intros;try refine dv ?_
 (intros;try refine du ?_);refine qm _ (List.Sublist.refl _) (by decide) ?_;refine sJ c66r14.eq_1 ?_
 refine⟨_,eR (.tail _ (.tail _ (.head _))) (hld 5 _ rfl),?_⟩;refine sI ?_;refine⟨_,dE (cs:=dY p A c (some ⟨ga,0,none⟩) d) (.tail _ (.head _)) rfl,?_⟩;refine sI ?_;refine⟨_,dE (b:=bb) (.tail _ (.tail _ (.tail _ (.tail _ (.head _))))) rfl,?_⟩;refine sI ?_;refine(hput _ _).mono ?_;rintro v h' ⟨G4,L',rfl,hg4,A9,c9,ye,rfl,hye,rfl⟩;refine sI ?_;refine fO ?_;refine sI ?_
 refine fF [_,_,_] _ rfl (by simp;have:=hz2.len;rw[List.length_set]at this;omega) ⟨rfl,rfl⟩ ?_;refine sI ?_;refine fO ?_;refine sI ?_
 refine dx (h':=⟨G4,[.row (.slice A9 pl.length c9) 151 2 pl.length ye,.blk b6 [.int .i64 mb.base,.int .i64 mb.last,.int .i64 mb.src,.int .i64 p.epoch,.int .i64 mb.pid,.int .i64 mb.gen,.int .i64 mb.seq,.bool mb.txn,.int .i64 mb.ctl,.slice B6 mb.recs.length d6]]++(PtL p x A c (some ⟨ga,0,none⟩) d ys (splice zs2 (k * 7+5) [.slice A9 pl.length c9])++[.blk bb [.int .i64 mb.base]]),[]⟩) (d7 (List.Perm.refl _)) ?_
 refine ed (dQ [] _ (by decide) hye) ?_;rintro h' ⟨G5,rfl,hg5,hv5⟩;have hz3:Cells (RE G5) 7 (p.reps.set k { r with log:=al,eps:=pl }) (splice zs2 (k * 7+5) [.slice A9 pl.length c9]):=by
  have:=Cells.setF (E:=RE G5) (o:=5) (us:=[.slice A9 pl.length c9]) (x':={ r with log:=al,eps:=pl }) (eG hz2 fun _ _ h=>RE.le (hg4.trans hg5) h) hr2 (by simp) fun cs h hl=>by
   obtain⟨A5,c5,B5,d5,rfl,q1,q2,q3,q4⟩:=h;exact⟨A5,c5,A9,c9,rfl,q1,hv5,q3,q4⟩
  rwa [List.set_set]at this
 generalize splice zs2 (k * 7+5) [.slice A9 pl.length c9]=zs3 at *;refine dx (h':=⟨G5,PtL p x A c (some ⟨ga,0,none⟩) d ys zs3++[.blk bb [.int .i64 mb.base]],[]⟩) (dD (.cons _ (List.Sublist.refl _))) ?_;intros;try refine dv ?_
 intros;refine gr 85 86 ?_;refine sJ c66r15.eq_1 ?_;intros;refine gc ?_;refine sI ?_;refine gb (fun k5=>?_) (fun k5=>?_)
 ·have k5:=of_decide_eq_true k5;intros;refine gr 87 88 ?_;refine sJ c66r16.eq_1 ?_;intros;refine dC (dG [.blk bb [.int .i64 mb.base]] rfl (by simp[PtL]) (dA dt) (herr pe mb.base p _ k5 mb.base ?_));rw[happ,if_pos k5]
 have k5:pe=0:=by simpa using k5
 rw[if_neg (fun h=>h k5)]at happ;have hal:=iW (l:=r.log) (b:={ mb with epoch:=p.epoch }) (by rw[hap];exact k4);rw[hap]at hal;have hca2:=hal.2.2.1;dsimp only at hca2;have hraise:=la (fQ p k { r with log:=al,eps:=pl }) x A c (some ⟨ga,0,none⟩) d ys zs3 G5 hy hz3 (mL hr rfl (gz hok)) (fun m hm=>by show m∈fM (p.reps.set k _);rw[il (y:={ r with log:=al,eps:=pl }) hr rfl];exact hok.2.1.2 m hm)
  (fun z hz=>by
   rcases List.mem_or_eq_of_mem_set hz with hz | rfl
   ·exact pV hsm.1 z hz
   ·exact⟨nN hca2,by have:=(gY hca2).2.2.2;show al.segs.length≤_;omega,by have:=hsr.2.2;show pl.length≤_;omega⟩) hI
 rw[mI]at hraise;rw[happ];intros;refine gN ?_;intros;try refine dv ?_
 intros;refine gr 88 90 ?_;refine sJ c66r17.eq_1 ?_;refine(hraise _ _).mono ?_;rintro r' h' ⟨G6,L',rfl,hg6,rfl,zs',rfl,hz'⟩;refine sI ?_;intros;try refine dv ?_
 intros;refine gr 0 0 ?_;refine sJ c66r18.eq_1 ?_;intros;refine dC (dG _ rfl (List.Sublist.refl _) (fun s cs hm=>?_) ⟨rfl,_,_,rfl,⟨mb.base,rfl,fun _=>rfl⟩,fun h=>absurd rfl h,fun _=>⟨A,c,some ⟨ga,0,none⟩,d,ys,zs',rfl,?_,hz',kC (p:=fQ p k _) hI⟩⟩)
 ·rcases List.mem_append.1 hm with h | h
  ·exact eg s cs h
  ·simp at h
 ·rw[(ea (fQ p k { r with log:=al,eps:=pl })).2.2.2.1];exact hy
def Jk(q:(Pt × Int) × Int)(G:Nat→Option Obj)(r:Value):Prop:=∃ cs,r=.tuple #[.agg cs.toArray,.int .i64 q.2,.int .i64 q.1.2]∧PE G q.1.1 cs
theorem lC(p:Pt)(b:Batch)(cs cb:List Value)(G:Nat→Option Obj)(hp:PE G p cs)(hsm:smP p)(hb:BE G b cb):FnD Tryz.prog 25 #[.agg cs.toArray,.agg cb.toArray] G (Jk (m8 p b)):=by
 have hp0:=hp;have hb0:=hb;obtain⟨A,c,B,d,rfl,-,-,hI⟩:=hp;obtain⟨B2,d2,rfl,-⟩:=hb;refine F25.fnD (by simp) (dF ?_);unfold c25;unfold dY at hp0 ⊢;unfold eS at hb0 ⊢;intros;refine gr 0 0 ?_;refine sJ c25r0.eq_1 ?_;intro b3 hb3 b5 hb5;refine sI ?_;intros;refine ed (ec [_,_] _) ?_;rintro h' ⟨G1,rfl,hg1,f3⟩
 have hch:=pG p _ 66 #[.pointer (some ⟨b3,0,none⟩),.pointer (some ⟨b5,0,none⟩)] (jI b p).1 [.blk b5 [.int .i64 0]] (C8 (jI b p) b5) G1 (hp0.le hg1) hsm (dA dt) (fun C h=>by obtain⟨v,rfl,-⟩:=h;exact dA dt) fun hok =>
  qL p b _ b3 b5 G1 hok hsm hI (BE.le hg1 hb0) fun j u hu=>by have:=f3 j u hu;rwa [gA]at this
 have hq:m8 p b=if (mf p (jI b p).1).2=0 then(mf p (jI b p).1,(jI b p).2)else((iz,(mf p (jI b p).1).2),0):=rfl
 intros;try refine dv ?_
 intros;refine gr 7 13 ?_;refine sJ c25r1.eq_1 ?_;refine(hch _ _).mono ?_;rintro r h' ⟨G2,L',rfl,hg2,⟨cs2,rfl,hpe⟩,-,hL⟩;obtain⟨v,rfl,hv⟩:∃ v,L'=[.blk b5 [.int .i64 v]]∧((mf p (jI b p).1).2=0→v=(jI b p).2):=by
  rcases hL with⟨v,h1,h2⟩ | ⟨h1,h2⟩
  ·refine⟨v,h1,fun h=>h2 ?_⟩;unfold mf at h;split at h
   ·split at h
    ·assumption
    ·exact h
   ·rename_i h3;exact absurd h h3
  ·refine⟨0,h2,fun h=>?_⟩;rw[mf,if_neg h1]at h;exact absurd h h1
 generalize hcq:mf p (jI b p).1=cq at *;have hpe0:=hpe;obtain⟨A2,c2,B2,d2,rfl,-⟩:=hpe;unfold dY at hpe0 ⊢;refine sI ?_;intros;try refine dv ?_
 intros;try refine dv ?_
 intros;refine gr 13 14 ?_;refine sJ c25r2.eq_1 ?_;intros;refine gc ?_;refine sI ?_;refine gb (fun k1=>?_) (fun k1=>?_)
 ·have k1:=of_decide_eq_true k1;intros;refine gr 15 17 ?_;refine sJ c25r3.eq_1 ?_;refine dI [] _ rfl (by simp) ⟨rfl,rfl⟩ ?_;refine sI ?_;intros;refine dC (jE (out:=[.agg #[.int .i64 0,.int .i64 0,.int .i64 0,.slice none 0 0,.slice none 0 0],.int .i64 0,.int .i64 cq.2]) ?_ ?_)
  ·simp[o25,l6,Kx.getR,Kx.getB,ud,ldC,Env.set]
  rw[hq,if_neg k1];exact⟨_,rfl,none,0,none,0,rfl,slN,slN,iA,iA,iA⟩
 have k1:cq.2=0:=by simpa using k1
 intros;refine gN ?_;intros;try refine dv ?_
 (intros;try refine du ?_);refine qm _ (.cons_cons _ (.cons_cons _ (List.nil_sublist _))) (by decide) ?_;refine sJ c25r4.eq_1 ?_
 refine⟨_,dE (.head _) rfl,?_⟩;refine sI ?_;refine⟨⟨fun _ _ h=>h,.cons_cons _ (.cons_cons _ (List.nil_sublist _)),rfl⟩,?_⟩;refine dI [] _ rfl (by simp) ⟨rfl,rfl⟩ ?_;refine sI ?_;refine fO ?_;refine sI ?_;intros;refine dC (jE (out:=[.agg #[.int .i64 cq.1.epoch,.int .i64 cq.1.leader,.int .i64 cq.1.least,.slice A2 cq.1.isr.length c2,.slice B2 cq.1.reps.length d2],.int .i64 v,.int .i64 0]) ?_ ?_)
 ·simp[o25,l6,Kx.getR,Kx.getB,ud,ldC,Env.set]
 rw[hq,if_pos k1];refine⟨_,?_,hpe0⟩;rw[hv k1,k1];rfl
theorem F13:Fun Tryz.prog 13 64 v13 c13 o13:=Fun.mkA Tryz.func13 Tryz.ntmps13
theorem F15:Fun Tryz.prog 15 26 v15 c15 o15:=Fun.mkA Tryz.func15 Tryz.ntmps15
def newR(L0:Lg)(n:Int):Rp:=⟨n,true,L0,[],0⟩
theorem CG(l:List Int)(limit least:Int)(v:Value)(G:Nat→Option Obj)(hl:SlV G IE 1 v l)(hb:l.length≤100000)(hi:I64 least):FnD Tryz.prog 13 #[v,.int .i64 limit,.int .i64 least] G (PtR (z9 l limit least)):=by
 have hl0:=hl;obtain⟨A,c,rfl,hc,hmx,hA⟩:=hl;refine F13.fnD (by simp) (dF ?_);unfold c13;intros;refine gr 0 0 ?_;refine sJ c13r0.eq_1 ?_;intros;refine gr 13 18 ?_;refine sJ c13r1.eq_1 ?_;refine(BK limit 0 G _ _).mono ?_;rintro r h' ⟨G1,rfl,hg1,cs,rfl,hle⟩
 have hnp1:((vA limit 0).2=0∧fm l∧l.length≤5∧1≤least∧least≤(l.length:Int))→z9 l limit least=(⟨1,l.headD 0,least,l,l.map (newR (vA limit 0).1)⟩,0):=fun h=>by unfold z9;rw[if_pos h];rfl
 have hnp0:¬ ((vA limit 0).2=0∧fm l∧l.length≤5∧1≤least∧least≤(l.length:Int))→z9 l limit least=(iz,1):=fun h=>by unfold z9;rw[if_neg h]
 have hl1:=hl0.le (E':=IE) hg1 fun _ _ h=>h
 generalize vA limit 0=nl at *;obtain⟨L0,e0⟩:=nl;dsimp only at hle hnp0 hnp1;have hle0:=hle;obtain⟨A3,c3,rfl,hs3,hlim⟩:=hle
 have hno:¬ (e0=0∧fm l∧l.length≤5∧1≤least∧least≤(l.length:Int))→∀ (fr:List Td) (e:Env),go none Tryz.prog 64 v13.1 v13.2 (fW o13 fun v h=>PtR (z9 l limit least) h.G v) (Td.s ((SC.reg false c13r3).seq .ret) :: fr) e ⟨G1,[.reg 8 [.int .i64 L0.limit,.int .i64 L0.start,.slice A3 L0.segs.length c3],.reg 6 [.int .i64 0,.int .i64 0,.int .i64 0,.slice none 0 0,.slice none 0 0]],[]⟩:=fun hn fr e=>by
  intros;refine gr 40 41 ?_;refine sJ c13r3.eq_1 ?_;intros;refine dC (jE rfl ?_);rw[hnp0 hn];exact re _ _
 unfold ek;refine sI ?_;intros;try refine dv ?_
 intros;try refine dv ?_
 intros;refine gr 18 39 ?_;refine sJ c13r2.eq_1 ?_;refine gd (fun k1=>?_) (fun k1=>?_)
 ·have k1:=of_decide_eq_true k1;refine sI ?_;intros;refine gc ?_;refine sI ?_;exact hno (fun h=>k1 h.1) _ _
 have k1:e0=0:=by simpa using k1
 refine sI ?_;refine(og _ _ _ hl1 _ _).mono ?_;rintro _ _ ⟨rfl,rfl⟩;refine sI ?_;refine gd (fun k2=>?_) (fun k2=>?_)
 ·have k2:Ao l=false:=by simpa using k2
  refine sI ?_;intros;refine gc ?_;refine sI ?_;exact hno (fun h=>by have:=sf h.2.1;rw[k2]at this;cases this) _ _
 have k2:fm l:=oX.1 (by simpa using k2);refine sI ?_;refine gd (fun k3=>?_) (fun k3=>?_)
 ·have k3:=of_decide_eq_true k3;refine sI ?_;intros;refine gc ?_;refine sI ?_;exact hno (fun h=>by have:=h.2.2.1;omega) _ _
 have k3:=of_decide_eq_false k3;refine sI ?_;refine gd (fun k4=>?_) (fun k4=>?_)
 ·have k4:=of_decide_eq_true k4;refine sI ?_;intros;refine gc ?_;refine sI ?_;exact hno (fun h=>by have:=h.2.2.2.1;omega) _ _
 have k4:=of_decide_eq_false k4;refine sI ?_;intros;refine gc ?_;refine sI ?_;refine gb (fun k5=>?_) (fun k5=>?_)
 ·have k5:=of_decide_eq_true k5;exact hno (fun h=>by have:=h.2.2.2.2;omega) _ _
 have k5:=of_decide_eq_false k5;rw[hnp1 ⟨k1,k2,by omega,by omega,by omega⟩];clear hno hnp0 hnp1;obtain⟨y0,hy0⟩:∃ y,l[0]?=some y:=⟨l[0]'(List.length_pos_iff.2 k2.1),List.getElem?_eq_getElem _⟩;have hhd:l.headD 0=y0:=by
  cases l with
  | nil=>cases hy0
  | cons a l=>cases hy0;rfl
 have hy0i:I64 y0:=by
  obtain⟨a,u,_,hu,_⟩:=hA.at1 hy0 [] [];exact hu.2
 have hcl:=fun G2 (hg:Gle G1 G2)=>pj l _ G2 (hl1.le (E':=IE) hg fun _ _ h=>h) (by omega)
 rw[hhd];obtain⟨A0,c0,he0,hc0,hm0,hA1⟩:=id hl1;cases he0;intros;refine gN ?_;intros;try refine dv ?_
 refine eA (fun e h=>∃ (G2:Nat→Option Obj) (b10:Nat) (A4:Option Addr) (c4:Nat) (ys:List Value) (Lh:List Kx.Item),(Gle G1 G2∧Cells IE 1 l ys)∧e 10=.pointer (some ⟨b10,0,none⟩)∧e 0=.slice A l.length c∧h=⟨G2,Lh,[]⟩∧Lh.Perm [.blk b10 [.int .i64 1,.int .i64 y0,.int .i64 least,.slice A4 l.length c4,.slice none 0 0],.row (.slice A4 l.length c4) 3 1 l.length ys,.reg 8 [.int .i64 L0.limit,.int .i64 L0.start,.slice A3 L0.segs.length c3],.reg 6 [.int .i64 0,.int .i64 0,.int .i64 0,.slice none 0 0,.slice none 0 0]]) ?_ ?_
 ·(intros;try refine du ?_);refine zS _ (List.Sublist.refl _) (by decide) ?_;refine sJ c13r4.eq_1 ?_
  refine hA1.y_l1 hy0 rfl rfl ?_;rintro a1 ha1 u1 ⟨hu,-⟩;cases hu;refine sI ?_;refine⟨?_,?_⟩
  ·refine(iS (hcl G1 (.refl _)) _ _).mono ?_;rintro r h' ⟨G2,L',rfl,hg2,A4,c4,ys,rfl,-,hys,rfl⟩;refine⟨dK hg2 (.cons _ (List.Sublist.refl _)),?_⟩;refine sI ?_;intro b10 hb10;refine⟨dK hg2 (.cons _ (.cons _ (List.Sublist.refl _))),?_⟩;refine sI ?_;refine dI [] _ rfl (by simp) ⟨rfl,rfl⟩ ?_;refine sI ?_;refine⟨dK hg2 (.cons _ (.cons _ (List.Sublist.refl _))),?_⟩;refine sI ?_
   exact eh ⟨G2,b10,A4,c4,ys,_,⟨hg2,hys⟩,eE,eE,rfl,List.Perm.refl _⟩
  ·intro b10 hb10;refine⟨dK (fun _ _ h=>h) (.cons _ (List.Sublist.refl _)),?_⟩;refine sI ?_;refine(iS (hcl G1 (.refl _)) _ _).mono ?_;rintro r h' ⟨G2,L',rfl,hg2,A4,c4,ys,rfl,-,hys,rfl⟩;refine⟨dK hg2 (.cons _ (.cons _ (List.Sublist.refl _))),?_⟩;refine sI ?_;refine dI [_] _ rfl (by simp) ⟨rfl,rfl⟩ ?_;refine sI ?_;refine⟨dK hg2 (.cons _ (.cons _ (List.Sublist.refl _))),?_⟩;refine sI ?_
   exact eh ⟨G2,b10,A4,c4,ys,_,⟨hg2,hys⟩,eE,eE,rfl,List.Perm.swap _ _ _⟩
 rintro e h ⟨G2,b10,A4,c4,ys,Lh,⟨hg2,hys⟩,e10,e0,rfl,hperm⟩;refine dz [0,10] ?_;refine sJ2 @e0 @e10 ?_;intros;refine dx (d7 hperm) ?_;refine ed (dQ [_] _ (by decide) hys) ?_;rintro h' ⟨G3,rfl,hg3,hv3⟩;have hg23:=hg2.trans hg3;have hA3:=hA1.le (E':=IE) hg23 fun _ _ h=>h
 have hs3:=SlSE.le hg23 hs3;refine dx (dR none 50 7) ?_;have hml:∀ k,((l.take k).map (newR L0)).length≤l.length:=fun k=>by simp;omega
 intros;try refine dv ?_
 refine eA (fun e h=>∃ (u:Value) (zc:List Value),Cells (RE G3) 7 (l.map (newR L0)) zc∧e 10=.pointer (some ⟨b10,0,none⟩)∧h=⟨G3,[.row u 50 7 l.length zc,.blk b10 [.int .i64 1,.int .i64 y0,.int .i64 least,.slice A4 l.length c4,u],.reg 8 [.int .i64 L0.limit,.int .i64 L0.start,.slice A3 L0.segs.length c3],.reg 6 [.int .i64 0,.int .i64 0,.int .i64 0,.slice none 0 0,.slice none 0 0]],[]⟩) ?_ ?_
 ·intros;try refine dv ?_
  intros;refine gr 0 0 ?_;refine sJ c13r5.eq_1 ?_
  (intros;try refine du ?_)
  refine dW (fun e h=>∃ (k:Nat) (u:Value) (zc:List Value),(k≤l.length∧Cells (RE G3) 7 ((l.take k).map (newR L0)) zc)∧e 50=.int .i64 k∧e 49=.int .i64 l.length∧e 48=.slice A l.length c∧e 10=.pointer (some ⟨b10,0,none⟩)∧h=⟨G3,[.row u 50 7 ((l.take k).map (newR L0)).length zc,.blk b10 [.int .i64 1,.int .i64 y0,.int .i64 least,.slice A4 l.length c4,u],.reg 8 [.int .i64 L0.limit,.int .i64 L0.start,.slice A3 L0.segs.length c3],.reg 6 [.int .i64 0,.int .i64 0,.int .i64 0,.slice none 0 0,.slice none 0 0]],[]⟩) (fun e h=>l.length - iv (e 50)) ?_ ?_
  ·exact⟨0,.slice none 0 0,[],⟨Nat.zero_le _,.nil⟩,eE,eE,eE,eE,rfl⟩
  rintro e h ⟨k,u,zc,⟨hk,hzc⟩,e50,e49,e48,e10,rfl⟩;refine dz [10,48,49,50] ?_;refine sJ4 @e10 @e48 @e49 @e50 ?_;intros;refine gr 0 0 ?_;refine sJ c13r6.eq_1 ?_;intros;refine gc ?_;refine sI ?_;refine gb (fun ht=>?_) (fun ht=>?_)
  ·have ht:k < l.length:=by have:=of_decide_eq_true ht;omega
   have hw:=fz k c (by omega) hmx;obtain⟨n,hn⟩:∃ s,l[k]?=some s:=⟨l[k],List.getElem?_eq_getElem (by omega)⟩;have htk:(l.take (k+1)).map (newR L0)=(l.take k).map (newR L0)++[newR L0 n]:=by rw[ew hn,List.map_append];rfl
   have hkl:=hml k;intros;refine gN ?_;intros;try refine dv ?_
   intros;refine gr 52 54 ?_;refine sJ c13r7.eq_1 ?_;refine hA3.x_l1 hn rfl rfl ?_;rintro a1 ha1 u1 ⟨hu,hni⟩;cases hu;refine sI ?_;have hre:RE G3 (newR L0 n) [.int .i64 n,.bool true,.int .i64 L0.limit,.int .i64 L0.start,.slice A3 L0.segs.length c3,.slice none 0 0,.int .i64 0]:=⟨A3,c3,none,0,rfl,hs3,slN,hlim,hni,iA⟩;intros;refine gr 54 62 ?_;refine sJ c13r8.eq_1 ?_
   refine⟨_,dE (.tail _ (.head _)) rfl,?_⟩;refine sI ?_;intro bk hbk;refine x8 (L1:=[]) (L2:=[_,_,_]) (E:=RE G3) (x:=newR L0 n) rfl hre rfl (by simp[Value.oneCell']) hzc (by omega) (by omega) fun A' c' zc' hzc'=>?_
   rw[← htk]at hzc' ⊢;refine sI ?_;refine dI [_,_] [_,_] rfl (by simp) ⟨rfl,rfl⟩ ?_;refine sI ?_;intros;refine gN ?_;refine dx (dD (.cons _ (List.Sublist.refl _))) ?_;intros;refine gr 62 63 ?_;refine sJ2 c13r9.eq_1 @hw ?_
   (intros;try refine du ?_)
   refine eh ⟨⟨k+1,_,zc',⟨by omega,hzc'⟩,eE,eE,eE,eE,rfl⟩,?_⟩;refine sI ?_;omega
  ·have ht:k=l.length:=by have:=of_decide_eq_false ht;omega
   subst ht;rw[List.take_length]at hzc ⊢;rw[List.length_map];refine dT ?_;refine sI ?_;intros;refine gN ?_;exact eh ⟨u,zc,hzc,eE,rfl⟩
 rintro e h ⟨u,zc,hzc,e10,rfl⟩;refine dz [10] ?_;refine sJ @e10 ?_;intros;refine ed (dQ [] _ (by decide) hzc) ?_;rintro h' ⟨G4,rfl,hg4,hv4⟩;obtain⟨A5,c5,rfl,hc5,hm5,hA5⟩:=hv4;rw[List.length_map];intros;try refine dv ?_
 intros;refine gr 63 64 ?_;refine sJ c13r10.eq_1 ?_;refine⟨_,kE (us:=[.int .i64 1,.int .i64 y0,.int .i64 least,.slice A4 l.length c4,.slice A5 l.length c5]) (.head _) rfl (fun j u h=>by rw[Nat.zero_add];exact h),?_⟩;refine sI ?_;intros;refine rV ?_;simp only[push_cast,Nat.reduceBEq];refine⟨_,rfl,A4,c4,A5,c5,?_,hv3.le (E':=IE) hg4 fun _ _ h=>h,?_,show I64 1 from by unfold I64;decide,hy0i,hi⟩
 ·unfold dY;dsimp only;rw[List.length_map]
 ·show SlV G4 (RE G4) 7 (.slice A5 (l.map (newR L0)).length c5) (l.map (newR L0));exact⟨A5,c5,rfl,hc5,hm5,hA5.le (fun _ _ h=>h) fun _ _ h=>RE.le hg4 h⟩
theorem si{G:Nat→Option Obj}{l:List Rp}{B:Option Addr}{n d:Nat}{k:Nat}{r:Rp}(h:SlV G (RE G) 7 (.slice B n d) l)(hr:l[k]?=some r):
  ∃ a A1 c1 B1 d1,B=some a∧RE G r (fH r A1 c1 B1 d1)∧(∀ L D,LdN ⟨G,L,D⟩ (.pointer (some ((a.add (k * 7)).add 2))) (some 3) (.agg (ek r.log A1 c1).toArray))∧∀ L D o u,(fH r A1 c1 B1 d1)[o]?=some u→LdN ⟨G,L,D⟩ (.pointer (some ((a.add (k * 7)).add o))) none u:=by
 obtain⟨A0,d0,he,-,-,hA⟩:=h;cases he;obtain⟨a,cs,ha,h1,h2,h4⟩:=hA k r hr;have h20:=h2;obtain⟨A,c,B,d,rfl,-⟩:=h2;refine⟨a,A,c,B,d,ha,h20,fun L D=>⟨_,_,rfl,rfl,rfl,fun j u hu=>?_⟩,fun L D o u hu=>⟨_,rfl,?_⟩⟩
 ·rw[fK,fK];refine .g (h4 (2+j) u ?_)
  match j,hu with
  | 0,h=>exact h
  | 1,h=>exact h
  | 2,h=>exact h
  | j+3,h=>cases h
 ·rw[fK];exact .g (h4 o u hu)
theorem ku{p:Pt}(h:okP p)(h0:¬ p.leader < 0):∃ k r,atR p.reps p.leader=some k∧p.reps[k]?=some r∧r.id=p.leader:=by
 obtain⟨r0,hr0,hl0⟩:∃ r∈p.reps,r.id=p.leader:=by
  rcases h.2.2 with h | ⟨⟨r,hr,h,-⟩,-⟩
  ·omega
  ·exact⟨r,hr,h⟩
 exact pi (l:=p.reps) (n:=p.leader) (List.mem_map.2 ⟨r0,hr0,hl0⟩)
theorem rB(p:Pt)(cs:List Value)(G:Nat→Option Obj)(hp:PE G p cs)(hsm:smP p):FnD Tryz.prog 15 #[.agg cs.toArray] G (LgR (gT p)):=by
 have hchk:=jP p cs G hp hsm;have hp0:=hp;obtain⟨A,c,B,d,rfl,hv1,hv2,hI⟩:=hp;refine F15.fnD (by simp) (dF ?_);unfold c15;unfold dY at hchk ⊢;intros;refine gr 0 0 ?_;refine sJ c15r0.eq_1 ?_;intros;try refine dv ?_
 intros;try refine dv ?_
 intros;refine gr 6 8 ?_;refine sJ c15r1.eq_1 ?_;refine(hchk _ _).mono ?_;rintro _ _ ⟨rfl,rfl⟩;refine sI ?_;intros;try refine dv ?_
 intros;refine gr 8 9 ?_;refine sJ c15r2.eq_1 ?_;intros;refine gc ?_;refine sI ?_;refine gb (fun k1=>?_) (fun k1=>?_)
 ·have k1:=of_decide_eq_true k1;intros;refine gr 10 12 ?_;refine sJ c15r3.eq_1 ?_;intros;refine rV ?_;simp only[push_cast,Nat.reduceBEq];rw[gT,if_pos k1];exact gS
 have k1:fa p=0:=by simpa using k1
 have hok:=jO k1;intros;refine gN ?_;intros;try refine dv ?_
 intros;try refine dv ?_
 intros;refine gr 13 14 ?_;refine sJ c15r4.eq_1 ?_;intros;refine gc ?_;refine sI ?_;refine gb (fun k2=>?_) (fun k2=>?_)
 ·have k2:=of_decide_eq_true k2;intros;refine gr 15 16 ?_;refine sJ c15r5.eq_1 ?_;intros;refine rV ?_;simp only[push_cast,Nat.reduceBEq];rw[gT,if_neg (fun h=>h k1),if_pos k2];exact gS
 have k2:=of_decide_eq_false k2;obtain⟨k,r,hk,hr,-⟩:=ku hok k2;have hld:gT p=(r.log,0):=by
  rw[gT,if_neg (fun h=>h k1),if_neg k2,hk];dsimp only;rw[hr];rfl
 rw[hld];intros;refine gN ?_;intros;try refine dv ?_
 intros;refine gr 16 19 ?_;refine sJ c15r6.eq_1 ?_;intro x hx;refine sI ?_;intros;refine ed (ec [] _) ?_;rintro h' ⟨G1,rfl,hg1,f1⟩;have hpt:PtG G1 p x A c B d:=⟨fun j u hu=>by have:=f1 j u hu;rwa [gA]at this,hv1.le (E':=IE) hg1 fun _ _ h=>h,SlR.le hg1 hv2⟩;obtain⟨a,A1,c1,B1,d1,rfl,hre,hl3,-⟩:=si hpt.2.2 hr;obtain⟨A9,c9,B9,d9,he9,hs9,-,hlim,-⟩:=hre;unfold fH at he9;cases he9;unfold ek at hl3
 have hat:=yg p x A c (some a) d p.leader G1 hpt hI.2.1 (gz hok);rw[hk]at hat;have hat:FnS Tryz.prog 51 #[.pointer (some ⟨x,0,none⟩),.int .i64 p.leader] G1 (.pointer (some (a.add (k * 7)))):=hat;intros;try refine dv ?_
 intros;refine gr 19 26 ?_;refine sJ c15r7.eq_1 ?_;refine(hat _ _).mono ?_;rintro _ _ ⟨rfl,rfl⟩;refine sI ?_;refine⟨_,hl3 _ _,?_⟩;refine sI ?_;intros;refine rV ?_;simp only[push_cast,Nat.reduceBEq];exact⟨_,rfl,A1,c1,rfl,hs9,hlim⟩
theorem F20:Fun Tryz.prog 20 32 v20 c20 o20:=Fun.mkA Tryz.func20 Tryz.ntmps20
def rb(l:List Rp)(m n:Int):Int:=max m (match atR l n with | some k=>(l[k]?.map (·.high)).getD 0 | none=>0)
theorem AJ{l:List Rp}{m n:Int}{k:Nat}{r:Rp}(h:atR l n=some k)(hr:l[k]?=some r):rb l m n=max m r.high:=by
 unfold rb;rw[h];dsimp only;rw[hr];rfl
theorem lr(p:Pt)(cs:List Value)(G:Nat→Option Obj)(hp:PE G p cs)(hsm:smP p):FnS Tryz.prog 20 #[.agg cs.toArray] G (.int .i64 (kl p)):=by
 have hchk:=fun G' hg=>jP p cs G' (hp.le hg) hsm
 obtain⟨A,c,B,d,rfl,hv1,hv2,hI⟩:=hp;refine F20.fnS (by simp) (dF ?_);unfold c20;have hself:∀ j u,(dY p A c B d)[j]?=some u→(dY p A c B d)[0+j]?=some u:=fun j u h=>by rw[Nat.zero_add];exact h
 unfold dY at hchk hself ⊢;intros;refine gr 0 0 ?_;refine sJ c20r0.eq_1 ?_;intro b1 hb1;refine sI ?_;intros;refine ed (ec [] _) ?_;rintro h' ⟨G1,rfl,hg1,f1⟩;have f1:∀ j u,(dY p A c B d)[j]?=some u→eT G1 ⟨b1,j,none⟩=some u:=fun j u hu=>by have:=f1 j u hu;rwa [gA]at this
 have hchk:=hchk G1 hg1;intros;try refine dv ?_
 intros;try refine dv ?_
 intros;refine gr 6 8 ?_;refine sJ c20r1.eq_1 ?_;refine⟨_,⟨_,_,rfl,rfl,rfl,fun j u hu=>.g (by rw[gA];exact f1 j u hu)⟩,?_⟩;refine sI ?_;refine(hchk _ _).mono ?_;rintro _ _ ⟨rfl,rfl⟩;refine sI ?_;intros;refine gc ?_;refine sI ?_;refine gb (fun k1=>?_) (fun k1=>?_)
 ·have k1:=of_decide_eq_true k1;intros;refine gr 0 0 ?_;refine sJ c20r2.eq_1 ?_;intros;refine rV ?_;simp only[push_cast,Nat.reduceBEq];rw[kl,if_pos k1]
 have k1:fa p=0:=by simpa using k1
 have hok:=jO k1;intros;refine gN ?_;intros;try refine dv ?_
 intros;refine gr 9 12 ?_;refine sJ c20r3.eq_1 ?_;refine⟨_,⟨_,_,rfl,rfl,rfl,fun j u hu=>.g (by rw[gA];exact f1 j u hu)⟩,?_⟩;refine sI ?_;intro x hx;refine sI ?_;intros;refine ed (ec [] _) ?_;rintro h' ⟨G2,rfl,hg2,f2⟩;have hg02:=hg1.trans hg2;have hpt:PtG G2 p x A c B d:=⟨fun j u hu=>by have:=f2 j u hu;rwa [gA]at this,hv1.le (E':=IE) hg02 fun _ _ h=>h,SlR.le hg02 hv2⟩
 have f1:∀ j u,(dY p A c B d)[j]?=some u→eT G2 ⟨b1,j,none⟩=some u:=fun j u hu=>dJ hg2 (f1 j u hu)
 have hd:decide (p.leader≥0)=decide (0≤p.leader):=rfl;intros;try refine dv ?_
 intros;refine gr 12 14 ?_;refine sJ c20r4.eq_1 ?_;refine⟨_,⟨_,rfl,.g (f1 1 _ rfl)⟩,?_⟩;refine sI ?_;intros;refine gc ?_;refine sI ?_;refine gb (fun k2=>?_) (fun k2=>?_)
 ·have k2:0≤p.leader:=of_decide_eq_true k2;obtain⟨k,r,hk,hr,-⟩:=ku hok (by omega);obtain⟨a,A1,c1,B1,d1,rfl,-,-,hf⟩:=si hpt.2.2 hr;have hat:=yg p x A c (some a) d p.leader G2 hpt hI.2.1 (gz hok);rw[hk]at hat;have hat:FnS Tryz.prog 51 #[.pointer (some ⟨x,0,none⟩),.int .i64 p.leader] G2 (.pointer (some (a.add (k * 7)))):=hat;intros;try refine dv ?_
  intros;refine gr 15 22 ?_;refine sJ c20r5.eq_1 ?_;refine⟨_,⟨_,rfl,.g (f1 1 _ rfl)⟩,?_⟩;refine sI ?_;refine(hat _ _).mono ?_;rintro _ _ ⟨rfl,rfl⟩;refine sI ?_;refine⟨_,hf _ _ 6 _ rfl,?_⟩;refine sI ?_;intros;refine rV ?_;simp only[push_cast,Nat.reduceBEq];rw[kl,if_neg (fun h=>h k1),if_pos k2,hk];dsimp only;rw[hr];rfl
 have k2:¬ 0≤p.leader:=of_decide_eq_false k2;have hhp:kl p=p.isr.foldl (rb p.reps) 0:=by rw[kl,if_neg (fun h=>h k1),if_neg k2];rfl
 rw[hhp];intros;refine gN ?_;intros;try refine dv ?_
 intros;refine gr 0 0 ?_;refine sJ c20r6.eq_1 ?_;intro b4 hb4;refine dI [] _ rfl (by simp) ⟨rfl,rfl⟩ ?_;refine sI ?_;intros;try refine dv ?_
 intros;try refine dv ?_
 intros;refine gr 22 23 ?_;refine sJ c20r7.eq_1 ?_;refine(p6 p x G2 _ _).mono ?_;rintro rr h' ⟨G3,rfl,hg3,b5,rfl,hb5⟩;have hpt3:=hpt.le hg3;have hit:=lP p x b5 A c B d G3 hpt3 (gz hok) hb5;refine sI ?_
 (intros;try refine du ?_)
 refine qA (α:=Int) (fun t G' L'=>L'=[.blk b4 [.int .i64 ((p.isr.take t).foldl (rb p.reps) 0)]]) (fun _ _ _ _=>False) (eE) F111.enters (dA dt) (fun _ _ _ _ _ h=>h) hit (fun G x args h=>by cases h;rfl) rfl ?_ ?_ ?_
 ·rintro yl t n args G' L' hx hgl rfl rfl _;obtain⟨i,y,hi,hiy,hyn⟩:=pi (hok.2.1.2 n (List.mem_of_getElem? hx));have hnext:(p.isr.take (t+1)).foldl (rb p.reps) 0=max ((p.isr.take t).foldl (rb p.reps) 0) y.high:=by rw[sY _ _ hx,AJ hi hiy]
  obtain⟨a,A1,c1,B1,d1,hBa,-,-,hf⟩:=si (hpt3.le hgl).2.2 hiy;have hptr:ub B (some i)=some (a.add (i * 7)):=by rw[hBa];rfl
  rw[hi,hptr,hnext];generalize (p.isr.take t).foldl (rb p.reps) 0=m0 at *;refine sI ?_;intros;refine gr 0 0 ?_;refine sJ c20r8.eq_1 ?_;intro bb;refine fN (rc ?_);intros;try refine dv ?_
  (intros;try refine du ?_)
  (intros;try refine du ?_);refine FL (by decide) ?_;refine sJ c20r9.eq_1 ?_
  refine⟨_,dE (.head _) rfl,?_⟩;refine sI ?_;refine⟨_,hf _ _ 6 _ rfl,?_⟩;refine sJ c20r10.eq_1 ?_;refine dI [] _ rfl (by simp) ⟨rfl,rfl⟩ ?_;refine sI ?_;intros;refine gN ?_;refine fN (pR _ (List.Sublist.refl _) (dA dt) rfl)
 ·rintro G' L' dd hgl rfl _;rw[List.take_length];intros;refine gN ?_;intros;refine gr 31 32 ?_;refine sJ c20r11.eq_1 ?_;refine⟨_,dE (.head _) rfl,?_⟩;refine sI ?_;intros;refine rV ?_;simp only[push_cast,Nat.reduceBEq]
 ·rintro ex i G' L' d _ _ h;exact h.elim
theorem F168:Fun Tryz.prog 168 32 v168 c168 o168:=Fun.mkA Tryz.func168 Tryz.ntmps168
theorem F135:Fun Tryz.prog 135 62 v135 c135 o135:=Fun.mkA Tryz.func135 Tryz.ntmps135
theorem xe(a b:List Batch)(v u:Value)(G:Nat→Option Obj)(ha:SlV G (BE G) 10 v a)(hb:SlV G (BE G) 10 u b):FnS Tryz.prog 168 #[v,u,.func (.func 169) #[] #[]] G (.bool (decide (a=b))):=by
 obtain⟨A,c,rfl,hc,hmx,hA⟩:=ha;obtain⟨B,d,rfl,hd,hmy,hB⟩:=hb;refine F168.fnS (by simp) (dF ?_);unfold c168;intros;refine gr 0 0 ?_;refine sJ c168r0.eq_1 ?_;intros;try refine dv ?_
 intros;try refine dv ?_
 intros;refine gr 10 14 ?_;refine sJ c168r1.eq_1 ?_;intros;refine gc ?_;refine sI ?_;refine gb (fun k1=>?_) (fun k1=>?_)
 ·have k1:=of_decide_eq_true k1;intros;refine gr 0 0 ?_;refine sJ c168r2.eq_1 ?_;intros;refine rV ?_;simp only[push_cast,Nat.reduceBEq];rw[decide_eq_false fun h=>k1 (by rw[h])]
 have k1:a.length=b.length:=by have:=of_decide_eq_false k1;omega
 intros;refine gN ?_;intros;try refine dv ?_
 intros;try refine dv ?_
 intros;refine gr 0 0 ?_;refine sJ c168r3.eq_1 ?_
 (intros;try refine du ?_)
 refine dW (fun e h=>∃ k:Nat,(k≤a.length∧a.take k=b.take k)∧e 17=.int .i64 k∧e 16=.int .i64 a.length∧e 15=.slice A a.length c∧e 1=.slice B b.length d∧e 2=.func (.func 169) #[] #[]∧h=⟨G,[],[]⟩) (fun e h=>a.length - iv (e 17)) ?_ ?_
 ·exact⟨0,⟨Nat.zero_le _,rfl⟩,eE,eE,eE,eE,eE,rfl⟩
 rintro e h ⟨k,⟨hk,heq⟩,e17,e16,e15,e1,e2,rfl⟩;refine dz [1,2,15,16,17] ?_;refine sJ5 @e1 @e2 @e15 @e16 @e17 ?_;intros;refine gr 0 0 ?_;refine sJ c168r4.eq_1 ?_;intros;refine gc ?_;refine sI ?_;refine gb (fun ht=>?_) (fun ht=>?_)
 ·have ht:k < a.length:=by have:=of_decide_eq_true ht;omega
  have hw:=fz k c (by omega) hmx;obtain⟨x,hx⟩:∃ s,a[k]?=some s:=⟨a[k],List.getElem?_eq_getElem (by omega)⟩;obtain⟨y,hy⟩:∃ s,b[k]?=some s:=⟨b[k],List.getElem?_eq_getElem (by omega)⟩;intros;refine gN ?_;intros;try refine dv ?_
  intros;refine gr 19 22 ?_;refine sJ c168r5.eq_1 ?_;refine hA.x_ld hx rfl rfl ?_;rintro a1 ha1 cs hbx;have hbx0:=hbx;obtain⟨B1,d1,rfl,-⟩:=hbx;unfold eS at hbx0 ⊢;refine sI ?_;intros;try refine dv ?_
  intros;refine gr 22 26 ?_;refine sJ c168r6.eq_1 ?_;refine hB.x_ld hy (by omega) rfl ?_;rintro a2 ha2 cs hby;have hby0:=hby;obtain⟨B2,d2,rfl,-⟩:=hby;unfold eS at hby0 ⊢;refine sI ?_;intros;try refine dv ?_
  intros;refine gr 26 30 ?_;refine sJ c168r7.eq_1 ?_;refine .inl ⟨169,#[],rfl,?_⟩;refine(BZ x y _ _ G hbx0 hby0 _ _).mono ?_;rintro _ _ ⟨rfl,rfl⟩;refine sI ?_;intros;refine gc ?_;refine sI ?_;refine gb (fun k2=>?_) (fun k2=>?_)
  ·have k2:¬ x=y:=by simpa using k2
   intros;refine gr 0 0 ?_;refine sJ c168r8.eq_1 ?_;intros;refine rV ?_;simp only[push_cast,Nat.reduceBEq];rw[decide_eq_false fun h=>k2 (by rw[h,hy]at hx;cases hx;rfl)]
  ·have k2:x=y:=by simpa using k2
   subst k2;intros;refine gN ?_;refine dx (dD (List.nil_sublist _)) ?_;intros;refine gr 31 32 ?_;refine sJ2 c168r9.eq_1 @hw ?_
   (intros;try refine du ?_)
   refine eh ⟨⟨k+1,⟨by omega,by rw[ew hx,ew hy,heq]⟩,eE,eE,eE,eE,eE,rfl⟩,?_⟩;refine sI ?_;omega
 ·have ht:k=a.length:=by have:=of_decide_eq_false ht;omega
  subst ht;rw[List.take_length,k1,List.take_length]at heq;refine dT ?_;refine sI ?_;intros;refine gr 0 0 ?_;refine sJ c168r10.eq_1 ?_;intros;refine rV ?_;simp only[push_cast,Nat.reduceBEq];rw[decide_eq_true heq]
theorem vc{l:Lg}{to:Int}(h:smL l.segs)(hm:l.segs.length≤1000):smL (lZ l to).1.segs∧(lZ l to).1.segs.length≤1000:=by
 have h0:smL gG.segs∧gG.segs.length≤1000:=⟨fun s hs=>absurd hs (by simp[gG]),by simp[gG]⟩;unfold lZ;split
 ·split
  ·show smL (qt l.segs to)∧(qt l.segs to).length≤1000;unfold qt;split
   ·exact⟨fun s hs=>by simp at hs;subst hs;simp,by simp⟩
   ·refine⟨fun s hs=>?_,by have:=oF l.segs to;omega⟩;obtain⟨t,ht,rfl⟩:=List.mem_map.1 hs;have:=h t (List.mem_filter.1 ht).1;simp only[tR,List.length_take];omega
  ·exact h0
 ·exact h0
def LgB(q:Lg × Bool)(G:Nat→Option Obj)(r:Value):Prop:=∃ cs,r=.tuple #[.agg cs.toArray,.bool q.2]∧LE G q.1 cs
theorem rn(l lead:Lg)(to:Int)(cs ds:List Value)(G:Nat→Option Obj)(hl:LE G l cs)(hd:LE G lead ds)(hb:smL l.segs)(hm:l.segs.length≤1000)(hb2:smL lead.segs)(hto:I64 to):
  FnD Tryz.prog 135 #[.agg cs.toArray,.agg ds.toArray,.int .i64 to] G (LgB (fc l lead to)):=by
 have htru:=ra l to cs G hl hb hm hto;have hsm:=vc (to:=to) hb hm;have hd0:=hd;obtain⟨A,c,rfl,-⟩:=hl;obtain⟨B,d,rfl,-⟩:=hd;have hcaught:fc l lead to=if (lZ l to).2≠0∨(iC lead).length < (iC (lZ l to).1).length∨iC (lZ l to).1≠(iC lead).take (iC (lZ l to).1).length then((lZ l to).1,false)else jw (lZ l to).1 ((iC lead).drop (iC (lZ l to).1).length):=rfl
 refine F135.fnD (by simp) (dF ?_);unfold c135;unfold ek at htru hd0 ⊢;intros;refine gr 0 0 ?_;refine sJ c135r0.eq_1 ?_;intros;try refine dv ?_
 intros;refine gr 13 19 ?_;refine sJ c135r1.eq_1 ?_;refine(htru _ _).mono ?_;rintro r h' ⟨G1,rfl,hg1,cs1,rfl,hle⟩;generalize lZ l to=tr at *;obtain⟨l1,e1⟩:=tr;dsimp only at hle hcaught hsm;have hle0:=hle;obtain⟨A1,c1,rfl,-⟩:=hle;have hall1:=Av l1 _ G1 hle0 hsm.1;unfold ek at hall1 hle0 ⊢;refine sI ?_;intros;try refine dv ?_
 (intros;try refine du ?_);refine o3 _ (List.Sublist.refl _) (by decide) ?_;refine sJ c135r2.eq_1 ?_
 refine(hall1 _ _).mono ?_;rintro r h' ⟨G2,rfl,hg2,hv1⟩;refine⟨lM hg2,?_⟩;refine sI ?_;refine(Av lead _ G2 (LE.le (hg1.trans hg2) hd0) hb2 _ _).mono ?_;rintro r2 h' ⟨G3,rfl,hg3,hv2⟩;refine⟨lM (hg2.trans hg3),?_⟩;refine sI ?_;have hv1:SlV G3 (BE G3) 10 r (iC l1):=hv1.le hg3 fun _ _ h=>BE.le hg3 h
 generalize iC l1=mine at *;generalize iC lead=all at *;obtain⟨A4,c4,rfl,q1,q2,q3⟩:=hv1;obtain⟨A5,c5,rfl,q4,q5,q6⟩:=hv2;have hv1:SlV G3 (BE G3) 10 (.slice A4 mine.length c4) mine:=⟨A4,c4,rfl,q1,q2,q3⟩;have hv2:SlV G3 (BE G3) 10 (.slice A5 all.length c5) all:=⟨A5,c5,rfl,q4,q5,q6⟩
 have hno:(e1≠0∨all.length < mine.length∨mine≠all.take mine.length)→∀ (fr:List Td) (e:Env),go none Tryz.prog 62 v135.1 v135.2 (fW o135 fun v h=>LgB (fc l lead to) h.G v) (Td.s ((SC.reg false c135r4).seq .ret) :: fr) e ⟨G3,[.reg 6 [.int .i64 0,.int .i64 0,.slice none 0 0],.reg 4 [.int .i64 lead.limit,.int .i64 lead.start,.slice B lead.segs.length d],.reg 3 [.int .i64 l1.limit,.int .i64 l1.start,.slice A1 l1.segs.length c1]],[]⟩:=fun hn fr e=>by
  intros;refine gr 41 42 ?_;refine sJ c135r4.eq_1 ?_;intros;refine dC (jE rfl ?_);rw[hcaught,if_pos hn];exact⟨_,rfl,LE.le (hg2.trans hg3) hle0⟩
 intros;try refine dv ?_
 intros;try refine dv ?_
 intros;refine gr 23 40 ?_;refine sJ c135r3.eq_1 ?_;refine gd (fun k1=>?_) (fun k1=>?_)
 ·have k1:=of_decide_eq_true k1;refine sI ?_;intros;refine gc ?_;refine sI ?_;exact hno (.inl k1) _ _
 have k1:e1=0:=by simpa using k1
 refine sI ?_;refine gd (fun k2=>?_) (fun k2=>?_)
 ·have k2:=of_decide_eq_true k2;refine sI ?_;intros;refine gc ?_;refine sI ?_;exact hno (.inr (.inl (by omega))) _ _
 have k2:mine.length≤all.length:=by have:=of_decide_eq_false k2;omega
 have htl:(all.take mine.length).length=mine.length:=by rw[List.length_take];omega
 have hpre:=SlV.pre mine.length hv2 k2;have heq:=xe mine (all.take mine.length) _ _ G3 hv1 hpre;refine sI ?_;refine⟨by omega,?_⟩;refine sI ?_;refine(heq _ _).mono ?_;rintro _ _ ⟨rfl,rfl⟩;refine sI ?_;intros;refine gc ?_;refine sI ?_;refine gb (fun k3=>?_) (fun k3=>?_)
 ·have k3:¬ mine=all.take mine.length:=by simpa using k3
  exact hno (.inr (.inr k3)) _ _
 have k3:mine=all.take mine.length:=by simpa using k3
 have hc2:fc l lead to=jw l1 (all.drop mine.length):=by
  rw[hcaught,if_neg];rintro(h | h | h)
  ·exact h k1
  ·omega
  ·exact h k3
 rw[hc2];clear hno hcaught heq hc2;intros;refine gN ?_;intros;try refine dv ?_
 intros;refine gr 42 45 ?_;refine sJ c135r5.eq_1 ?_;refine zE mine.length all.length c5 hv2 rfl rfl rfl (by omega) fun B5 hB5=>?_
 rw[List.take_length]at hB5 ⊢;generalize all.drop mine.length=rest at *;obtain⟨A6,c6,he6,q7,q8,hA6⟩:=hB5;cases he6;have hgt:=hg2.trans hg3;have hle1:=LE.le hgt hle0;refine sI ?_
 (intros;try refine du ?_)
 refine dW (fun e h=>∃ (k:Nat) (cur:Lg) (G':Nat→Option Obj) (A':Option Addr) (c':Nat),(k≤rest.length∧Gle G3 G'∧LE G' cur (ek cur A' c')∧smL cur.segs∧cur.segs.length≤1000∧jw l1 rest=jw cur (rest.drop k))∧e 47=.int .i64 k∧e 46=.int .i64 rest.length∧e 45=.slice B5 rest.length (c5 - mine.length)∧h=⟨G',[.reg 6 [.int .i64 0,.int .i64 0,.slice none 0 0],.reg 4 [.int .i64 lead.limit,.int .i64 lead.start,.slice B lead.segs.length d],.reg 3 (ek cur A' c')],[]⟩) (fun e h=>rest.length - iv (e 47)) ?_ ?_
 ·exact⟨0,l1,G3,A1,c1,⟨Nat.zero_le _,.refl _,hle1,hsm.1,hsm.2,rfl⟩,eE,eE,eE,rfl⟩
 rintro e h ⟨k,cur,G',A',c',⟨hk,hg',hlc,hs1,hs2,hap⟩,e47,e46,e45,rfl⟩;refine dz [45,46,47] ?_;refine sJ3 @e45 @e46 @e47 ?_;unfold ek at hlc ⊢;intros;refine gr 0 0 ?_;refine sJ c135r6.eq_1 ?_;intros;refine gc ?_;refine sI ?_;refine gb (fun ht=>?_) (fun ht=>?_)
 ·have ht:k < rest.length:=by have:=of_decide_eq_true ht;omega
  have hw:=fz k _ (by omega) q8;obtain⟨x,hx⟩:∃ s,rest[k]?=some s:=⟨rest[k],List.getElem?_eq_getElem (by omega)⟩;have hdr:rest.drop k=x :: rest.drop (k+1):=by
   rw[List.drop_eq_getElem_cons ht];congr 1;exact(List.getElem?_eq_some_iff.1 hx).2
  rw[hdr,jw]at hap;have hA':=hA6.le (E':=BE G') hg' fun _ _ h=>BE.le hg' h
  intros;refine gN ?_;intros;try refine dv ?_
  intros;refine gr 49 51 ?_;refine sJ c135r7.eq_1 ?_;refine hA'.x_ld hx rfl rfl ?_;rintro a1 ha1 cs hbx;have hbx0:=hbx;obtain⟨B1,d1,rfl,-⟩:=hbx;unfold eS at hbx0 ⊢;have hca:=nt cur x _ _ G' hlc hs1 hs2 hbx0;have hapo:=iW (l:=cur) (b:=x);generalize gR cur x=ax at *;obtain⟨cur2,e2⟩:=ax;dsimp only at hap hapo;refine sI ?_;intros;try refine dv ?_
  intros;refine gr 51 57 ?_;refine sJ c135r8.eq_1 ?_;refine(hca _ _).mono ?_;rintro v h' ⟨G4,rfl,hg4,cs7,rfl,hle7⟩;dsimp only at hle7;have hle70:=hle7;obtain⟨A7,c7,rfl,-⟩:=hle7;unfold ek at hle70 ⊢;refine sI ?_;intros;try refine dv ?_
  intros;refine gr 57 58 ?_;refine sJ c135r9.eq_1 ?_;intros;refine gc ?_;refine sI ?_;refine gb (fun k4=>?_) (fun k4=>?_)
  ·have k4:=of_decide_eq_true k4;rw[if_neg k4]at hap;intros;refine gr 59 60 ?_;refine sJ c135r10.eq_1 ?_;intros;refine dC (jE rfl ?_);rw[hap];exact⟨_,rfl,hle70⟩
  ·have k4:e2=0:=by simpa using k4
   rw[if_pos k4]at hap;have hck:=(hapo k4).2.2.1;intros;refine gN ?_;refine dx (dD (L':=[.reg 6 [.int .i64 0,.int .i64 0,.slice none 0 0],.reg 4 [.int .i64 lead.limit,.int .i64 lead.start,.slice B lead.segs.length d],.reg 3 [.int .i64 cur2.limit,.int .i64 cur2.start,.slice A7 cur2.segs.length c7]]) (.cons _ (List.Sublist.refl _))) ?_;intros;refine gr 60 61 ?_;refine sJ2 c135r11.eq_1 @hw ?_
   (intros;try refine du ?_)
   refine eh ⟨⟨k+1,cur2,G4,A7,c7,⟨by omega,hg'.trans hg4,hle70,nN hck,by have:=(gY hck).2.2.2;omega,hap⟩,eE,eE,eE,rfl⟩,?_⟩;refine sI ?_;omega
 ·have ht:k=rest.length:=by have:=of_decide_eq_false ht;omega
  subst ht;rw[List.drop_length,jw]at hap;refine dT ?_;refine sI ?_;intros;refine gr 61 62 ?_;refine sJ c135r12.eq_1 ?_;intros;refine rV ?_;simp only[push_cast,Nat.reduceBEq];rw[hap];exact⟨_,rfl,hlc⟩
theorem F82:Fun Tryz.prog 82 67 v82 c82 o82:=Fun.mkA Tryz.func82 Tryz.ntmps82
theorem Ax{l:List Ep}(h:gQ l=0){i:Nat}{en:Int}(he:0≤en∧en≤1099511627777):0≤CS l i en∧CS l i en≤1099511627777:=by
 unfold CS;cases hy:l[i+1]? with
 | none=>simpa using he
 | some y =>
  have:=vm h hy;simp[okE]at this ⊢;omega
theorem BR{a b:List Ep}{ae be m:Int}(h:lX a b ae be m)(h1:0≤ae∧ae≤1099511627777)(h2:0≤be∧be≤1099511627777):0≤m∧m≤1099511627777:=by
 rcases h with⟨-,rfl⟩ | ⟨ha,hb,⟨-,rfl⟩ | ⟨i,x,k,y,-,-,-,-,rfl⟩⟩
 ·omega
 ·omega
 ·have:=Ax ha (i:=i) h1;have:=Ax hb (i:=k) h2;omega
theorem Cf(r lead:Rp):0≤kD r lead∧kD r lead≤1099511627777:=by
 unfold kD lY;split
 ·rename_i h;exact BR (Classical.choose_spec h) (jY _) (jY _)
 ·omega
theorem wo(l:List Rp)(k:Nat)(r lead:Rp)(ga d:Nat)(zs ds:List Value)(G:Nat→Option Obj)(hz:Cells (RE G) 7 l zs)(hr:l[k]?=some r)(hd:RE G lead ds)(hsr:smR r)(hsl:smR lead):
  FnO Tryz.prog 82 #[.pointer (some ⟨ga,k * 7,none⟩),.agg ds.toArray] G [.row (.slice (some ⟨ga,0,none⟩) l.length d) 50 7 l.length zs] (fun G' L' v=>v=.tuple #[]∧∃ zs',L'=[.row (.slice (some ⟨ga,0,none⟩) l.length d) 50 7 l.length zs']∧Cells (RE G') 7 (l.set k (dN r lead)) zs'):=by
 have hzl:=hz.len;have hkl:=(List.getElem?_eq_some_iff.1 hr).1;obtain⟨cs,hre,hcl,hld⟩:=hz.get hr;have hre0:=hre;have hd0:=hd;have hendr:=iQ r cs G hre hsr.1 (by have:=hsr.2.1;omega);have hendl:=iQ lead ds G hd hsl.1 (by have:=hsl.2.1;omega);obtain⟨A1,c1,B1,d1,rfl,q1,q2,q3,q4⟩:=hre;obtain⟨A2,c2,B2,d2,rfl,p1,p2,p3,p4⟩:=hd
 have hmeet:=AC r.eps lead.eps (eD r.log) (eD lead.log) _ _ G q2 p2 (by have:=hsr.2.2;omega) (by have:=hsl.2.2;omega);have hmp:kD r lead=lY r.eps lead.eps (eD r.log) (eD lead.log):=rfl;refine F82.fnO (by simp) (dw dt) (dF ?_);unfold c82;unfold fH at hendr hendl hd0 ⊢;intros;refine gr 0 0 ?_;refine sJ c82r0.eq_1 ?_;intros;try refine dv ?_
 (intros;try refine du ?_);refine o3 _ (List.Sublist.refl _) (by decide) ?_;refine sJ c82r1.eq_1 ?_
 refine⟨_,eR (.tail _ (.head _)) (hld 5 _ rfl),?_⟩;refine sI ?_;refine⟨_,gJ (.tail _ (.head _)) hcl hld,?_⟩;unfold fH;refine sI ?_;refine(hendr _ _).mono ?_;rintro _ _ ⟨rfl,rfl⟩;refine sI ?_;refine(hendl _ _).mono ?_;rintro _ _ ⟨rfl,rfl⟩;refine sI ?_;refine(hmeet _ _).mono ?_;rintro _ _ ⟨rfl,rfl⟩;refine sI ?_;rw[← hmp];have hei:=jY r.log;have hto:I64 (min (kD r lead) (eD r.log)):=by
  have:=Cf r lead;unfold I64;omega
 have hfo:(dN r lead).log=if r.log.start=lead.log.start∧r.log.start≤kD r lead∧(fc r.log lead.log (min (kD r lead) (eD r.log))).2=true then(fc r.log lead.log (min (kD r lead) (eD r.log))).1 else lead.log:=rfl
 have hle1:LE G r.log (ek r.log A1 c1):=⟨A1,c1,rfl,q1,q3⟩;have hle2:LE G lead.log (ek lead.log A2 c2):=⟨A2,c2,rfl,p1,p3⟩;have hcau:=rn r.log lead.log _ _ _ G hle1 hle2 hsr.1 hsr.2.1 hsl.1 hto;have hldl:=xj hld;unfold ek at hcau hldl;generalize hcm:kD r lead=m at *;generalize fc r.log lead.log (min m (eD r.log))=cau at *;obtain⟨cl,cb⟩:=cau;dsimp only at hfo;intros;try refine dv ?_
 intros;refine gr 22 23 ?_;refine sJ c82r2.eq_1 ?_;intros;try refine dv ?_
 refine eA (fun e h=>∃ (G':Nat→Option Obj) (lg:Lg) (b:Bool) (A5:Option Addr) (c5:Nat),(Gle G G'∧LE G' lg (ek lg A5 c5)∧(dN r lead).log=if b=true then lg else lead.log)∧e 0=.pointer (some ⟨ga,k * 7,none⟩)∧e 6=.bool b∧h=⟨G',[.reg 5 (ek lg A5 c5),.reg 3 [.int .i64 lead.id,.bool lead.up,.int .i64 lead.log.limit,.int .i64 lead.log.start,.slice A2 lead.log.segs.length c2,.slice B2 lead.eps.length d2,.int .i64 lead.high],.row (.slice (some ⟨ga,0,none⟩) l.length d) 50 7 l.length zs],[]⟩) ?_ ?_
 ·intros;try refine dv ?_
  intros;refine gr 23 28 ?_;refine sJ c82r3.eq_1 ?_;refine⟨_,eR (.tail _ (.tail _ (.head _))) (hld 3 _ rfl),?_⟩;refine sI ?_;have hfin:¬ (r.log.start=lead.log.start∧r.log.start≤m)→(dN r lead).log=lead.log:=fun h=>by rw[hfo,if_neg fun h2=>h ⟨h2.1,h2.2.1⟩]
  intros;try refine dv ?_
  intros;refine gr 28 37 ?_;refine sJ c82r4.eq_1 ?_;refine gd (fun k1=>?_) (fun k1=>?_)
  ·have k1:=of_decide_eq_true k1;refine sI ?_;intros;refine gc ?_;refine sI ?_;refine gb (fun k2=>?_) (fun k2=>?_)
   ·have k2:r.log.start≤m:=of_decide_eq_true k2
    (intros;try refine du ?_);refine qm _ (List.Sublist.refl _) (by decide) ?_;refine sJ c82r5.eq_1 ?_
    refine⟨_,gJ (.tail _ (.tail _ (.head _))) rfl hldl,?_⟩;refine sI ?_;refine⟨_,gJ (.tail _ (.tail _ (.head _))) hcl hld,?_⟩;unfold fH;refine sI ?_;refine(hendr _ _).mono ?_;rintro _ _ ⟨rfl,rfl⟩;refine sI ?_;refine(hcau _ _).mono ?_;rintro v h' ⟨G1,rfl,hg1,cs7,rfl,hle7⟩;dsimp only at hle7;have hle70:=hle7;obtain⟨A7,c7,rfl,-⟩:=hle7;unfold ek;refine sI ?_;refine fO ?_;refine sI ?_;refine fO ?_
    refine sI ?_;refine eh ⟨G1,cl,cb,A7,c7,⟨hg1,hle70,?_⟩,eE,eE,rfl⟩;rw[hfo];cases cb
    ·rw[if_neg (by simp),if_neg (by simp)]
    ·rw[if_pos ⟨k1,k2,rfl⟩,if_pos rfl]
   ·have k2:¬ r.log.start≤m:=of_decide_eq_false k2;intros;refine gN ?_;exact eh ⟨G,lead.log,false,A2,c2,⟨.refl _,hle2,by rw[hfin fun h=>k2 h.2];rfl⟩,eE,eE,rfl⟩
  ·have k1:=of_decide_eq_false k1;refine sI ?_;intros;refine gc ?_;refine sI ?_;intros;refine gN ?_;exact eh ⟨G,lead.log,false,A2,c2,⟨.refl _,hle2,by rw[hfin fun h=>k1 h.1];rfl⟩,eE,eE,rfl⟩
 rintro e h ⟨G1,lg,b,A5,c5,⟨hg1,hlg,hlog⟩,e0,e6,rfl⟩;refine dz [0,6] ?_;refine sJ2 @e0 @e6 ?_;intros;try refine dv ?_
 refine eA (fun e h=>∃ (A8:Option Addr) (c8:Nat),LE G1 (dN r lead).log (ek (dN r lead).log A8 c8)∧e 0=.pointer (some ⟨ga,k * 7,none⟩)∧h=⟨G1,[.reg 5 (ek (dN r lead).log A8 c8),.reg 3 [.int .i64 lead.id,.bool lead.up,.int .i64 lead.log.limit,.int .i64 lead.log.start,.slice A2 lead.log.segs.length c2,.slice B2 lead.eps.length d2,.int .i64 lead.high],.row (.slice (some ⟨ga,0,none⟩) l.length d) 50 7 l.length zs],[]⟩) ?_ ?_
 ·intros;try refine dv ?_
  intros;refine gr 54 55 ?_;refine sJ c82r6.eq_1 ?_;intros;refine gc ?_;refine sI ?_;refine gb (fun k1=>?_) (fun k1=>?_)
  ·have k1:b=false:=by simpa using k1
   rw[if_neg (by rw[k1];simp)]at hlog;rw[hlog];unfold ek;intros;refine gr 57 58 ?_;refine sJ c82r7.eq_1 ?_;intros;refine gN ?_;exact eh ⟨A2,c2,LE.le hg1 hle2,eE,rfl⟩
  ·have k1:b=true:=by simpa using k1
   rw[if_pos k1]at hlog;rw[hlog];intros;refine gN ?_;exact eh ⟨A5,c5,hlg,eE,rfl⟩
 rintro e h ⟨A8,c8,hle8,e0,rfl⟩;refine dz [0] ?_;refine sJ @e0 ?_;have hz1:Cells (RE G1) 7 (l.set k { r with log:=(dN r lead).log }) (splice zs (k * 7+2) (ek (dN r lead).log A8 c8)) :=
  Cells.setF (E:=RE G1) (x':={ r with log:=(dN r lead).log }) (eG hz fun _ _ h=>RE.le hg1 h) hr (by simp[ek]) fun cs h hl=>by
   obtain⟨A6,c6,B6,d6,rfl,q1,q2,q3,q4⟩:=h;obtain⟨A9,c9,he9,h1,h2⟩:=hle8;unfold ek at he9;cases he9;exact⟨A8,c8,B6,d6,rfl,h1,q2,h2,q4⟩
 have hz2:Cells (RE G1) 7 (l.set k (dN r lead)) (splice (splice zs (k * 7+2) (ek (dN r lead).log A8 c8)) (k * 7+5) [.slice B2 lead.eps.length d2]):=by
  have:=Cells.setF (E:=RE G1) (o:=5) (us:=[.slice B2 lead.eps.length d2]) (x':=dN r lead) hz1 (gI hr) (by simp) fun cs h hl=>by
   obtain⟨A6,c6,B6,d6,rfl,q1,q2,q3,q4⟩:=h;exact⟨A6,c6,B2,d2,rfl,q1,p2.le hg1 fun _ _ h=>h,q3,q4⟩
  rwa [List.set_set]at this
 unfold ek at hz2 ⊢;intros
 (intros;try refine du ?_);refine qm _ (.cons_cons _ (.cons_cons _ (List.nil_sublist _))) (by decide) ?_;refine sJ c82r8.eq_1 ?_
 refine fF [_,_] [] rfl (by simp;omega) ⟨rfl,rfl⟩ ?_;refine sI ?_;refine⟨⟨fun _ _ h=>h,.cons_cons _ (.cons_cons _ (List.nil_sublist _)),rfl⟩,?_⟩;refine fF [_,_] [] rfl (by simp[splice];omega) ⟨rfl,rfl⟩ ?_;refine sI ?_;exact fN ⟨[],rfl,⟨G1,[.row (.slice (some ⟨ga,0,none⟩) l.length d) 50 7 l.length _],[]⟩,dD (.cons _ (.cons _ (List.Sublist.refl _))),dw dt,rfl,_,rfl,hz2⟩
theorem F170:Fun Tryz.prog 170 6 v170 c170 o170:=Fun.mkA Tryz.func170 Tryz.ntmps170
theorem F137:Fun Tryz.prog 137 6 v137 c137 o137:=Fun.mkA Tryz.func137 Tryz.ntmps137
theorem F136:Fun Tryz.prog 136 17 v136 c136 o136:=Fun.mkA Tryz.func136 Tryz.ntmps136
theorem F83:Fun Tryz.prog 83 54 v83 c83 o83:=Fun.mkA Tryz.func83 Tryz.ntmps83
theorem yq(n:Int)(G:Nat→Option Obj):FnS Tryz.prog 170 #[.int .i64 n] G (.bool false):=by
 have hd:decide (n≠n)=false:=by simp
 refine F170.fnS (by simp) (dF ?_);unfold c170;intros;refine gr 0 0 ?_;refine sJ c170r0.eq_1 ?_;intros;refine gr 3 6 ?_;refine sJ2 c170r1.eq_1 @hd ?_;intros;refine rV ?_;simp only[push_cast,Nat.reduceBEq]
theorem wg(n:Int)(G:Nat→Option Obj):FnS Tryz.prog 137 #[.int .i64 n] G (.bool false):=by
 have hd:decide (n≠n)=false:=by simp
 refine F137.fnS (by simp) (dF ?_);unfold c137;intros;refine gr 0 0 ?_;refine sJ c137r0.eq_1 ?_;intros;refine gr 3 6 ?_;refine sJ2 c137r1.eq_1 @hd ?_;intros;refine rV ?_;simp only[push_cast,Nat.reduceBEq]
theorem Bt(a b:Int)(G:Nat→Option Obj):FnS Tryz.prog 136 #[.int .i64 a,.int .i64 b] G (.bool (decide (a < b))):=by
 refine F136.fnS (by simp) (dF ?_);unfold c136;intros;refine gr 0 0 ?_;refine sJ c136r0.eq_1 ?_;intros;refine gr 5 17 ?_;refine sJ c136r1.eq_1 ?_;refine(yq _ _ _ _).mono ?_;rintro _ _ ⟨rfl,rfl⟩;refine sI ?_;intros;refine rV ?_;simp only[push_cast,Nat.reduceBEq]
theorem rg(l:List Int)(n:Int)(v:Value)(G:Nat→Option Obj)(hl:SlV G IE 1 v l)(hs:l.Pairwise (· < ·)):
  FnE Tryz.prog 83 #[v,.int .i64 n] G (fun r=>∃ j:Nat,r=.tuple #[.int .i64 j,.bool (decide (n∈l))]∧j≤l.length∧∀ t y,l[t]?=some y→(t < j→y < n)∧(j≤t→n≤y)):=by
 obtain⟨A,c,rfl,hc,hmx,hA⟩:=hl;have hmono:∀ (i k:Nat) (x y:Int),i < k→l[i]?=some x→l[k]?=some y→x < y:=fun i k x y hik hx hy=>by
  obtain⟨g1,e1⟩:=List.getElem?_eq_some_iff.1 hx;obtain⟨g2,e2⟩:=List.getElem?_eq_some_iff.1 hy;rw[List.pairwise_iff_getElem]at hs;rw[← e1,← e2];exact hs i k g1 g2 hik
 refine F83.fnE (by simp) (dF ?_);unfold c83;intros;refine gr 0 0 ?_;refine sJ c83r0.eq_1 ?_;intros;refine gr 10 12 ?_;refine sJ c83r1.eq_1 ?_;intros;refine gr 12 13 ?_;refine sJ c83r2.eq_1 ?_
 (intros;try refine du ?_)
 refine dW (fun e h=>∃ i j:Nat,(i≤j∧j≤l.length)∧(∀ t y,l[t]?=some y→(t < i→y < n)∧(j≤t→n≤y))∧e 7=.int .i64 i∧e 8=.int .i64 j∧e 6=.int .i64 l.length∧e 0=.slice A l.length c∧e 1=.int .i64 n∧h=⟨G,[],[]⟩) (fun e h=>iv (e 8) - iv (e 7)) ?_ ?_
 ·exact⟨0,l.length,⟨by omega,by omega⟩,fun t y hy=>⟨fun h=>absurd h (by omega),fun h=>by have:=(List.getElem?_eq_some_iff.1 hy).1;omega⟩,eE,eE,eE,eE,eE,rfl⟩
 rintro e h ⟨i,j,⟨hij,hjn⟩,hat,e7,e8,e6,e0,e1,rfl⟩;refine dz [0,1,6,7,8] ?_;refine sJ5 @e0 @e1 @e6 @e7 @e8 ?_;intros;refine gr 13 15 ?_;refine sJ c83r3.eq_1 ?_;intros;refine gc ?_;refine sI ?_;refine gb (fun ht=>?_) (fun ht=>?_)
 ·have hlt:i < j:=by simpa using ht
  unfold maxLen at hmx;obtain⟨m,hm1,hm2,hh,hv⟩:∃ m:Nat,i≤m∧m < j∧eZ .shr (.int .u64 (IntKind.u64.wrap (IntKind.i64.wrap ((i:Int)+j)))) (.int .u64 1)=some (.int .u64 (m:Int))∧IntKind.i64.wrap (m:Int)=m :=
   ⟨(i+j) / 2,by omega,by omega,Hg i j (by omega),cvh i j (by omega)⟩
  obtain⟨x,hx⟩:∃ x,l[m]?=some x:=⟨l[m],List.getElem?_eq_getElem (by omega)⟩;intros;refine gN ?_;intros;refine gr 16 22 ?_;refine sJ3 c83r4.eq_1 @hh @hv ?_;intros;refine gr 22 27 ?_;refine sJ c83r5.eq_1 ?_;refine hA.x_l1 hx rfl rfl ?_;rintro a1 ha1 u1 ⟨hu,-⟩;cases hu;refine sI ?_;refine(Bt x n _ _ _).mono ?_;rintro _ _ ⟨rfl,rfl⟩;refine sI ?_;intros;refine gc ?_;refine sI ?_
  refine gb (fun h3=>?_) (fun h3=>?_)
  ·have h3:=of_decide_eq_true h3;have hw:IntKind.i64.wrap ((m:Int)+1)=(m:Int)+1:=by rw[dU] <;> omega
   intros;refine gr 28 30 ?_;refine sJ2 c83r6.eq_1 @hw ?_
   (intros;try refine du ?_)
   refine eh ⟨⟨m+1,j,⟨by omega,by omega⟩,fun t y hy=>⟨fun h=>?_,(hat t y hy).2⟩,(eJ @hw),eE,eE,eE,eE,rfl⟩,?_⟩
   ·by_cases htm:t=m
    ·subst htm;rw[hx]at hy;cases hy;exact h3
    ·have:=hmono t m y x (by omega) hy hx;omega
   refine sJ @hw ?_;omega
  ·have h3:=of_decide_eq_false h3;intros;refine gr 30 31 ?_;refine sJ c83r7.eq_1 ?_
   (intros;try refine du ?_)
   refine eh ⟨⟨i,m,⟨by omega,by omega⟩,fun t y hy=>⟨(hat t y hy).1,fun h=>?_⟩,eE,eE,eE,eE,eE,rfl⟩,?_⟩
   ·by_cases htm:t=m
    ·subst htm;rw[hx]at hy;cases hy;omega
    ·have:=hmono m t x y (by omega) hx hy;omega
   refine sI ?_;omega
 ·have hij':i=j:=by simp at ht;omega
  subst hij';have hmem:n∈l↔l[i]?=some n:=by
   constructor
   ·intro h;obtain⟨t,ht⟩:=List.getElem?_of_mem h;have:=hat t n ht;have h1:i≤t:=by
     by_cases h:t < i
     ·have:=this.1 h;omega
     ·omega
    by_cases hti:t=i
    ·rw[← hti];exact ht
    ·have hl:=(List.getElem?_eq_some_iff.1 ht).1;obtain⟨y,hy⟩:∃ y,l[i]?=some y:=⟨l[i],List.getElem?_eq_getElem (by omega)⟩;have h2:=(hat i y hy).2 (Nat.le_refl _);have h3:=hmono i t y n (by omega) hy ht;omega
   ·exact fun h=>List.mem_of_getElem? h
  refine dT ?_;refine sI ?_;intros;refine gr 31 54 ?_;refine sJ c83r8.eq_1 ?_;refine gd (fun ht=>?_) (fun ht=>?_)
  ·have hlt:i < l.length:=by simpa using ht
   obtain⟨x,hx⟩:∃ x,l[i]?=some x:=⟨l[i],List.getElem?_eq_getElem (by omega)⟩;have hdm:decide (n∈l)=decide (x=n):=decide_eq_decide.2 (by rw[hmem,hx];simp);refine sI ?_;refine hA.x_l1 hx rfl rfl ?_;rintro a1 ha1 u1 ⟨hu,-⟩;cases hu;refine sI ?_;refine gd (fun k1=>?_) (fun k1=>?_)
   ·have k1':=of_decide_eq_true k1;refine sI ?_;intros;refine rV ?_;simp only[push_cast,Nat.reduceBEq];exact⟨i,by rw[hdm,k1],hjn,hat⟩
   ·refine sI ?_;refine hA.x_l1 hx rfl rfl ?_;rintro a1 ha1 u1 ⟨hu,-⟩;cases hu;refine sI ?_;refine(wg _ _ _ _).mono ?_;rintro _ _ ⟨rfl,rfl⟩;refine sI ?_;intros;refine rV ?_;simp only[push_cast,Nat.reduceBEq];exact⟨i,by rw[hdm,k1],hjn,hat⟩
  ·have hlt:i=l.length:=by have:=of_decide_eq_false ht;omega
   refine sI ?_;intros;refine rV ?_;simp only[push_cast,Nat.reduceBEq];have hnm:decide (n∈l)=false:=decide_eq_false (by rw[hmem,List.getElem?_eq_none (by omega)];simp);exact⟨i,by rw[hnm],hjn,hat⟩
theorem F33:Fun Tryz.prog 33 12 v33 c33 o33:=Fun.mkA Tryz.func33 Tryz.ntmps33
theorem F81:Fun Tryz.prog 81 104 v81 c81 o81:=Fun.mkA Tryz.func81 Tryz.ntmps81
def Dw(P:Program)(f et:Nat):Prop :=
 ∀ (l:List Int) (n:Int) (j:Nat) (A:Option Addr) (c b:Nat) (ys:List Value) (G:Nat→Option Obj),l.Pairwise (· < ·)→n∉l→(j≤l.length∧∀ t y,l[t]?=some y→(t < j→y < n)∧(j≤t→n≤y))→l.length≤1000→I64 n→Cells IE 1 l ys →
  FnO P f #[.slice A l.length c,.int .i64 j,.slice (some ⟨b,0,none⟩) 1 1] G [.row (.slice (some ⟨b,0,none⟩) 1 1) et 1 1 [.int .i64 n],.row (.slice A l.length c) et 1 l.length ys] (fun G' L' r=>∃ A' c' ys',r=.slice A' (ft l n).length c'∧Cells IE 1 (ft l n) ys'∧L'=[.row r et 1 (ft l n).length ys'])
theorem pQ:∀ {l:List Int} {n:Int},l.Pairwise (· < ·)→n∈l→ft l n=l
 | [],_,_,h=>by cases h
 | m :: l,n,hs,h=>by
  rw[ft];rcases List.mem_cons.1 h with rfl | h
  ·rw[if_neg (by omega),if_pos rfl]
  ·have h1:=(List.pairwise_cons.1 hs).1 n h;rw[if_pos h1,pQ (List.pairwise_cons.1 hs).2 h]
theorem kJ:∀ {l:List Int} {n m:Int},m∈ft l n→m∈l∨m=n
 | [],n,m,h=>by simp[ft]at h;exact .inr h
 | x :: l,n,m,h=>by
  rw[ft]at h;split at h
  ·rcases List.mem_cons.1 h with rfl | h
   ·exact .inl (.head _)
   ·rcases kJ h with h | h
    ·exact .inl (.tail _ h)
    ·exact .inr h
  ·split at h
   ·exact .inl h
   ·rcases List.mem_cons.1 h with rfl | h
    ·exact .inr rfl
    ·exact .inl h
theorem kh{p:Pt}{j:Nat}{y:Rp}(h0:¬ p.leader < 0)(hj:atR p.reps p.leader=some j)(hy:p.reps[j]?=some y):dS p=fQ p j { y with high:=max y.high (fD p.reps j y (eD y.log) p.isr) }:=by
 unfold dS;rw[if_neg h0,hj];dsimp only;rw[hy];rfl
theorem vR:∀ {l m:List Rp} (n:Int),fM l=fM m→atR l n=atR m n
 | [],[],_,_=>rfl
 | [],y :: m,_,h=>by cases h
 | x :: l,[],_,h=>by cases h
 | x :: l,y :: m,n,h=>by
  simp only[fM,List.map_cons,List.cons.injEq]at h;rw[atR,atR,h.1,vR n h.2]
theorem Ae(p:Pt)(x:Nat)(A:Option Addr)(c:Nat)(B:Option Addr)(d:Nat)(ys zs:List Value):
  (PtL p x A c B d ys zs).Perm ([Kx.Item.row (.slice B p.reps.length d) 50 7 p.reps.length zs]++[Kx.Item.blk x (dY p A c B d),Kx.Item.row (.slice A p.isr.length c) 3 1 p.isr.length ys]):=List.Perm.swap _ _ _
theorem Cl(l:List Int)(n:Int)(A:Option Addr)(c:Nat)(ys:List Value)(h:H)(L:List Kx.Item)(hL:h.L.Perm (.row (.slice A l.length c) 3 1 l.length ys :: L))(hy:Cells IE 1 l ys)(hs:l.Pairwise (· < ·)):
  ee Tryz.prog 83 #[.slice A l.length c,.int .i64 n] h fun r h'=>(∃ j:Nat,r=.tuple #[.int .i64 j,.bool (decide (n∈l))]∧j≤l.length∧∀ t y,l[t]?=some y→(t < j→y < n)∧(j≤t→n≤y))∧h'=h :=
 iE (L1:=[_]) (M:=fun G=>SlV G IE 1 (.slice A l.length c) l) (dw dt) F83.enters hL (jm (M1:=fun G=>SlV G IE 1 (.slice A l.length c) l) (fun L=>kn (by decide) hy) fun G' _ h=>ml h) fun G' hg hp=>rg l n _ G' hp hs L h.D
theorem sX:∀ {bs:List Batch} {l:Lg},smL l.segs∧l.segs.length≤1000→smL (jw l bs).1.segs∧(jw l bs).1.segs.length≤1000
 | [],l,h=>h
 | b :: bs,l,h=>by
  rw[jw];split
  ·rename_i h0;have hc:=(iW h0).2.2.1;exact sX ⟨nN hc,by have:=(gY hc).2.2.2;omega⟩
  ·rename_i h0;rw[CD h0];exact⟨fun s hs=>absurd hs (by simp[gG]),by simp[gG]⟩
theorem qa{r lead:Rp}(h1:smR r)(h2:smR lead):smR (dN r lead):=by
 have hc:∀ to,smL (fc r.log lead.log to).1.segs∧(fc r.log lead.log to).1.segs.length≤1000:=fun to=>by
  have ht:=vc (to:=to) h1.1 h1.2.1;unfold fc;dsimp only;split
  ·exact ht
  ·exact sX ht
 have h3:smL (dN r lead).log.segs∧(dN r lead).log.segs.length≤1000:=by
  unfold dN;dsimp only;split
  ·exact hc _
  ·exact⟨h2.1,h2.2.1⟩
 exact⟨h3.1,h3.2,h2.2.2⟩
theorem zx(p:Pt)(n:Int)(b3 k:Nat)(r:Rp)(G:Nat→Option Obj)(hok:okP p)(hsm:smP p)(hI:qp p)(hn:I64 n)(h3:eT G ⟨b3,0,none⟩=some (.int .i64 n))(hk:atR p.reps n=some k)(hr:p.reps[k]?=some r)
  (hins:Dw Tryz.prog 84 3∨n∈p.isr∨∀ j lead,atR p.reps p.leader=some j→p.reps[j]?=some lead→eD (dN r lead).log < lead.high) :
  nm G 81 #[.pointer (some ⟨b3,0,none⟩)] p k (hO n p k r):=by
 intro G1 x A c ga d ys zs hg hy hz;have h3:=dJ hg h3;rw[show(#[.pointer (some ⟨x,0,none⟩),.pointer (some ⟨ga,k * 7,none⟩)]++#[.pointer (some ⟨b3,0,none⟩)]:Array Value)=#[.pointer (some ⟨x,0,none⟩),.pointer (some ⟨ga,k * 7,none⟩),.pointer (some ⟨b3,0,none⟩)]from rfl];have hsr:=hsm.1 r (List.mem_of_getElem? hr);have hkl:=(List.getElem?_eq_some_iff.1 hr).1;have hrn:r.id=n:=by
  obtain⟨r',h1,h2⟩:=gW hk;rw[hr]at h1;cases h1;exact h2
 obtain⟨cs,hre,hcl,hld⟩:=hz.get hr;obtain⟨A1,c1,B1,d1,rfl,-⟩:=hre;refine F81.fnO (by simp) eg (dF ?_);unfold c81;have hno:p.leader < 0∨r.up=false→∀ (fr:List Td) (e:Env) (h:H),go none Tryz.prog 104 v81.1 v81.2 (fW o81 fun v h=>yH (hO n p k r) x (· = []) h.G h.L v) (Td.s ((SC.reg false c81r2).seq .ret) :: fr) e h:=fun h fr e h=>by
  intros;refine gr 0 0 ?_;refine sJ c81r2.eq_1 ?_;intros;refine dC (dG [] rfl (List.nil_sublist _) dt ?_);rw[hO,if_pos ‹_›];exact ou x _ (by decide)
 intros;refine gr 0 0 ?_;refine sJ c81r0.eq_1 ?_;intros;try refine dv ?_
 intros;try refine dv ?_
 intros;refine gr 10 22 ?_;refine sJ c81r1.eq_1 ?_;refine⟨_,dE (cs:=dY p A c (some ⟨ga,0,none⟩) d) (.head _) rfl,?_⟩;refine sI ?_;refine gd (fun k1=>?_) (fun k1=>?_)
 ·have k1:=of_decide_eq_true k1;refine sI ?_;intros;refine gc ?_;refine sI ?_;exact hno (.inl k1) _ _ _
 have k1:=of_decide_eq_false k1;refine sI ?_;refine⟨_,eR (.tail _ (.head _)) (hld 1 _ rfl),?_⟩;refine sI ?_;intros;refine gc ?_;refine sI ?_;refine gb (fun k2=>?_) (fun k2=>?_)
 ·have k2:r.up=false:=by simpa using k2
  exact hno (.inr k2) _ _ _
 have k2:r.up=true:=by simpa using k2
 have k12:¬ (p.leader < 0∨r.up=false):=fun h=>by rcases h with h | h;exact k1 h;rw[k2]at h;cases h
 clear hno;intros;refine gN ?_;intros;try refine dv ?_
 intros;try refine dv ?_
 (intros;try refine du ?_);refine xM 23 29 (by decide) ?_;refine sJ c81r3.eq_1 ?_
 refine⟨_,⟨_,rfl,.g h3⟩,?_⟩;refine sI ?_;refine⟨_,dE (cs:=dY p A c (some ⟨ga,0,none⟩) d) (.head _) rfl,?_⟩;refine sI ?_;intros;refine gc ?_;refine sI ?_;refine gb (fun k3=>?_) (fun k3=>?_)
 ·have k3:=of_decide_eq_true k3;intros;refine gr 0 0 ?_;refine sJ c81r4.eq_1 ?_;intros;refine dC (dG _ rfl (List.Sublist.refl _) eg ?_);rw[hO,if_neg k12,if_pos k3];exact uP hy hz hI
 have k3:=of_decide_eq_false k3;obtain⟨j,lead,hj,hl,hli⟩:=ku hok k1;have hjl:=(List.getElem?_eq_some_iff.1 hl).1;have hjk:j≠k:=fun h=>by
  subst h;rw[hr]at hl;cases hl;exact k3 (by rw[← hrn,hli])
 have hpt:ub (some ⟨ga,0,none⟩) (some j)=some ⟨ga,j * 7,none⟩:=congrArg some (gA _ _);intros;refine gN ?_;intros;try refine dv ?_
 intros;refine gr 30 37 ?_;refine sJ c81r5.eq_1 ?_;refine⟨_,dE (cs:=dY p A c (some ⟨ga,0,none⟩) d) (.head _) rfl,?_⟩;refine sI ?_;refine(sF p x A c (some ⟨ga,0,none⟩) d ys zs p.leader _ [] (by simp) hy hz hI.2.1 (gz hok)).mono ?_;rintro _ _ ⟨rfl,rfl⟩;rw[hj,hpt];refine sI ?_;have hsl:=hsm.1 lead (List.mem_of_getElem? hl);obtain⟨cs,hle,hcl2,hld2⟩:=hz.get hl
 have hfo:=wo p.reps k r lead ga d zs cs G1 hz hr hle hsr hsl;obtain⟨A2,c2,B2,d2,rfl,-⟩:=hle;unfold fH at hfo;intros;try refine dv ?_
 intros;refine gr 37 42 ?_;refine sJ c81r6.eq_1 ?_;refine⟨_,gJ (.tail _ (.head _)) hcl2 hld2,?_⟩;unfold fH;refine sI ?_;refine ee.ghost (h':=⟨G1,[.row (.slice (some ⟨ga,0,none⟩) p.reps.length d) 50 7 p.reps.length zs]++[.blk x (dY p A c (some ⟨ga,0,none⟩) d),.row (.slice A p.isr.length c) 3 1 p.isr.length ys],[]⟩) (d7 (Ae p x A c (some ⟨ga,0,none⟩) d ys zs)) ?_;refine(hfo _ _).mono ?_
 rintro v h' ⟨G2,L',rfl,hg2,rfl,zs1,rfl,hz1⟩;refine sI ?_;intros;refine dx (h':=⟨G2,PtL p x A c (some ⟨ga,0,none⟩) d ys zs1,[]⟩) (d7 (Ae p x A c (some ⟨ga,0,none⟩) d ys zs1).symm) ?_;have hsf:=qa hsr hsl;have hrf:=gI (y:=dN r lead) hr;have hlf:(p.reps.set k (dN r lead))[j]?=some lead:=by rw[List.getElem?_set_ne (Ne.symm hjk)];exact hl
 have hpf:hO n p k r=(fQ (dS { p with isr:=if lead.high≤eD (dN r lead).log then ft p.isr n else p.isr,reps:=p.reps.set k { dN r lead with high:=min r.high (eD (dN r lead).log) } }) k
   { dN r lead with high:=min (max (min r.high (eD (dN r lead).log)) ((dS { p with isr:=if lead.high≤eD (dN r lead).log then ft p.isr n else p.isr,reps:=p.reps.set k { dN r lead with high:=min r.high (eD (dN r lead).log) } }).reps[j]?.getD lead).high) (eD (dN r lead).log) },0):=by
  unfold hO;rw[if_neg k12,if_neg k3,hj];dsimp only;rw[hl]
 have hfh:(dN r lead).high=r.high∧(dN r lead).id=r.id:=⟨rfl,rfl⟩;have hins:Dw Tryz.prog 84 3∨n∈p.isr∨eD (dN r lead).log < lead.high:=by
  rcases hins with h | h | h
  ·exact .inl h
  ·exact .inr (.inl h)
  ·exact .inr (.inr (h j lead hj hl))
 rw[hpf];clear hpf hfo;generalize dN r lead=fr at *;obtain⟨cs,hre,hcl,hld⟩:=hz1.get hrf;have hend:=iQ fr cs G2 hre hsf.1 (by have:=hsf.2.1;omega);have hei:=jY fr.log;obtain⟨A1,c1,B1,d1,rfl,-,-,-,-,hfi⟩:=hre;unfold fH at hend;intros;try refine dv ?_
 intros;refine gr 42 46 ?_;refine sJ c81r7.eq_1 ?_;refine⟨_,gJ (.tail _ (.head _)) hcl hld,?_⟩;unfold fH;refine sI ?_;refine(hend _ _).mono ?_;rintro _ _ ⟨rfl,rfl⟩;refine sI ?_;generalize eD fr.log=last at *;have hz2:Cells (RE G2) 7 (p.reps.set k { fr with high:=min r.high last }) (splice zs1 (k * 7+6) [.int .i64 (min fr.high last)]):=by
  have:=Cells.setF (E:=RE G2) (o:=6) (us:=[.int .i64 (min fr.high last)]) (x':={ fr with high:=min r.high last }) hz1 hrf (by simp) fun cs h hl=>by
   obtain⟨A5,c5,B5,d5,rfl,q1,q2,q3,q4,q5⟩:=h;refine⟨A5,c5,B5,d5,?_,q1,q2,q3,q4,by unfold I64 at q5 ⊢;rw[hfh.1]at q5;show _≤min r.high last∧min r.high last≤_;omega⟩;rw[hfh.1];rfl
  rwa [List.set_set]at this
 have hzl1:=hz1.len;rw[List.length_set]at hzl1;intros;try refine dv ?_
 intros;refine gr 46 55 ?_;refine sJ c81r8.eq_1 ?_;refine⟨_,eR (.tail _ (.head _)) (hld 6 _ rfl),?_⟩;refine sI ?_;refine fF [_] _ rfl (by simp;omega) ⟨rfl,rfl⟩ ?_;refine sI ?_;generalize splice zs1 (k * 7+6) [.int .i64 (min fr.high last)]=zs2 at *;have hrj:(p.reps.set k { fr with high:=min r.high last })[j]?=some lead:=by rw[List.getElem?_set_ne (Ne.symm hjk)];exact hl
 obtain⟨cs,hre2,hcl2',hld2'⟩:=hz2.get hrj;obtain⟨A3,c3,B3,d3,rfl,-⟩:=hre2;have hs:=hok.2.1.1.2.2;generalize hiq:(if lead.high≤last then ft p.isr n else p.isr)=isr' at *;intros;try refine dv ?_
 refine eA (fun e h=>∃ (G3:Nat→Option Obj) (A3:Option Addr) (c3:Nat) (ys3:List Value) (Lh:List Kx.Item),(Gle G2 G3∧Cells IE 1 isr' ys3)∧e 0=.pointer (some ⟨x,0,none⟩)∧e 1=.pointer (some ⟨ga,k * 7,none⟩)∧e 6=.pointer (some ⟨ga,j * 7,none⟩)∧e 7=.int .i64 last∧h=⟨G3,Lh,[]⟩∧Lh.Perm (PtL { p with isr:=isr' } x A3 c3 (some ⟨ga,0,none⟩) d ys3 zs2)) ?_ ?_
 ·intros;try refine dv ?_
  (intros;try refine du ?_);refine o3 _ (List.Sublist.refl _) (by decide) ?_;refine sJ c81r9.eq_1 ?_
  refine⟨_,dE (cs:=dY p A c (some ⟨ga,0,none⟩) d) (.head _) rfl,?_⟩;refine sI ?_;refine⟨_,⟨_,rfl,.g (dJ hg2 h3)⟩,?_⟩;refine sI ?_;refine(Cl p.isr n A c ys _ _ (List.perm_append_comm (l₁:=[_,_]) (l₂:=[_])) hy hs).mono ?_;rintro _ _ ⟨⟨jj,rfl,hjj,hat⟩,rfl⟩;refine sI ?_;intros;try refine dv ?_
  intros;refine gr 65 74 ?_;refine sJ c81r10.eq_1 ?_;refine⟨_,eR (.tail _ (.head _)) (hld2' 6 _ rfl),?_⟩;refine sI ?_;have hd:decide (last≥lead.high)=decide (lead.high≤last):=rfl;refine gd (fun k4=>?_) (fun k4=>?_)
  ·have k4:lead.high≤last:=of_decide_eq_true k4;rw[if_pos k4]at hiq;refine sI ?_;intros;refine gc ?_;refine sI ?_;refine gb (fun k5=>?_) (fun k5=>?_)
   ·have k5:n∉p.isr:=by simpa using k5
    have hI:Dw Tryz.prog 84 3:=by
     rcases hins with h | h | h
     ·exact h
     ·exact absurd h k5
     ·omega
    (intros;try refine du ?_);refine Dj _ (.cons_cons _ (.cons_cons _ (List.nil_sublist _))) (by decide) ?_;refine sJ c81r11.eq_1 ?_
    refine⟨_,dE (cs:=dY p A c (some ⟨ga,0,none⟩) d) (.head _) rfl,?_⟩;refine sI ?_;refine⟨_,⟨_,rfl,.g (dJ hg2 h3)⟩,?_⟩;refine sI ?_;intro bv hbv;refine⟨dK (fun _ _ h=>h) (.cons _ (.cons_cons _ (.cons_cons _ (List.nil_sublist _)))),?_⟩
    refine ee.ghost (h':=⟨G2,[.row (.slice (some ⟨bv,0,none⟩) 1 1) 3 1 1 [.int .i64 n],.row (.slice A p.isr.length c) 3 1 p.isr.length ys]++[.blk x (dY p A c (some ⟨ga,0,none⟩) d),.row (.slice (some ⟨ga,0,none⟩) p.reps.length d) 50 7 p.reps.length zs2],[]⟩) (d7 (.cons _ (List.perm_append_comm (l₁:=[_,_]) (l₂:=[_])))) ?_
    refine((hI p.isr n jj A c bv ys G2 hs k5 ⟨hjj,hat⟩ (by have:=hsm.2.2;omega) hn hy) _ _).mono ?_;rintro r' h' ⟨G3,L',rfl,hg3,A4,c4,ys4,rfl,hy4,rfl⟩;rw[hiq]at hy4 ⊢;refine⟨dK hg3 (.cons _ (.cons_cons _ (.cons_cons _ (List.nil_sublist _)))),?_⟩;refine sJ c81r12.eq_1 ?_;refine dI [_] _ rfl (by simp[dY]) ⟨rfl,rfl⟩ ?_;refine sI ?_
    exact eh ⟨G3,A4,c4,ys4,_,⟨hg3,hy4⟩,eE,eE,eE,eE,rfl,List.perm_append_comm (l₁:=[_]) (l₂:=[_,_])⟩
   ·have k5:n∈p.isr:=by simpa using k5
    rw[pQ hs k5]at hiq;subst hiq;intros;refine gN ?_;exact eh ⟨G2,A,c,ys,_,⟨.refl _,hy⟩,eE,eE,eE,eE,rfl,List.Perm.refl _⟩
  ·have k4:¬ lead.high≤last:=of_decide_eq_false k4;rw[if_neg k4]at hiq;subst hiq;refine sI ?_;intros;refine gc ?_;refine sI ?_;intros;refine gN ?_;exact eh ⟨G2,A,c,ys,_,⟨.refl _,hy⟩,eE,eE,eE,eE,rfl,List.Perm.refl _⟩
 rintro e h ⟨G3,A3,c3,ys3,Lh,⟨hg3,hy3⟩,e0,e1,e6,e7,rfl,hperm⟩;refine dz [0,1,6,7] ?_;refine sJ4 @e0 @e1 @e6 @e7 ?_;intros;refine dx (d7 hperm) ?_;have hid1:fM (p.reps.set k { fr with high:=min r.high last })=fM p.reps:=il hr hfh.2;have hz3:=eG hz2 fun _ _ h=>RE.le hg3 h
 have hraise:=la (fQ { p with isr:=isr' } k { fr with high:=min r.high last }) x A3 c3 (some ⟨ga,0,none⟩) d ys3 zs2 G3 hy3 hz3 (mL hr hfh.2 (gz (p:=p) hok))
  (fun m hm=>by
   show m∈fM (p.reps.set k _)
   rw[hid1]
   have hm:m∈isr':=hm
   rw[← hiq]at hm
   split at hm
   ·rcases kJ hm with h | rfl
    ·exact hok.2.1.2 m h
    ·exact List.mem_map.2 ⟨r,List.mem_of_getElem? hr,hrn⟩
   ·exact hok.2.1.2 m hm)
  (pV <| vh hsm.1 hsf) hI
 rw[mI]at hraise;have hR:=kh (p:=fQ { p with isr:=isr' } k { fr with high:=min r.high last }) k1 ((vR (m:=p.reps) _ hid1).trans hj) hrj;have hRs:=ea (fQ { p with isr:=isr' } k { fr with high:=min r.high last });have hRi:=kC (p:=fQ { p with isr:=isr' } k { fr with high:=min r.high last }) hI;generalize fD _ _ _ _ _=lf at hR
 have hj2:(dS (fQ { p with isr:=isr' } k { fr with high:=min r.high last })).reps[j]?=some { lead with high:=max lead.high lf }:=by
  rw[hR];exact gI hrj
 have hk2:(dS (fQ { p with isr:=isr' } k { fr with high:=min r.high last })).reps[k]?=some { fr with high:=min r.high last }:=by
  rw[hR];show((p.reps.set k _).set j _)[k]?=_;rw[List.getElem?_set_ne hjk];exact gI hr
 change go _ _ _ _ _ (fW _ fun v h=>yH (fQ (dS (fQ { p with isr:=isr' } k { fr with high:=min r.high last })) k { fr with high:=min (max (min r.high last) (((dS (fQ { p with isr:=isr' } k { fr with high:=min r.high last })).reps[j]?).getD lead).high) last },0) x (· = []) h.G h.L v) _ _ _;rw[hj2,Option.getD_some]
 have hyr:Cells IE 1 (dS (fQ { p with isr:=isr' } k { fr with high:=min r.high last })).isr ys3:=by rw[hRs.2.2.2.1];exact hy3
 intros;try refine dv ?_
 intros;refine gr 88 90 ?_;refine sJ c81r13.eq_1 ?_;rw[← List.append_nil (PtL { p with isr:=isr' } x A3 c3 (some ⟨ga,0,none⟩) d ys3 zs2)];refine(hraise _ _).mono ?_;rintro r' h' ⟨G4,L',rfl,hg4,rfl,zs',rfl,hz'⟩;rw[List.append_nil];clear hR hRs hraise;generalize dS (fQ { p with isr:=isr' } k { fr with high:=min r.high last })=p2 at *;obtain⟨cs,hre,-,hldk⟩:=hz'.get hk2;obtain⟨A8,c8,B8,d8,rfl,-⟩:=hre
 obtain⟨cs,hre,-,hldj⟩:=hz'.get hj2;obtain⟨A9,c9,B9,d9,rfl,-⟩:=hre;have hzl4:=hz'.len;have hkl2:=(List.getElem?_eq_some_iff.1 hk2).1;refine sI ?_;intros;try refine dv ?_
 (intros;try refine du ?_);refine FL (by decide) ?_;refine sJ c81r14.eq_1 ?_
 refine⟨_,eR (.tail _ (.head _)) (hldk 6 _ rfl),?_⟩;refine sI ?_;refine⟨_,eR (.tail _ (.head _)) (hldj 6 _ rfl),?_⟩;refine sJ c81r15.eq_1 ?_;refine fF [_] _ rfl (by simp;omega) ⟨rfl,rfl⟩ ?_;have hz5:Cells (RE G4) 7 (p2.reps.set k { fr with high:=min (max (min r.high last) (max lead.high lf)) last }) (splice zs' (k * 7+6) [.int .i64 (min (max (min r.high last) (max lead.high lf)) last)]) :=
  Cells.setF (E:=RE G4) (o:=6) (us:=[.int .i64 (min (max (min r.high last) (max lead.high lf)) last)]) (x':={ fr with high:=min (max (min r.high last) (max lead.high lf)) last }) hz' hk2 (by simp) fun cs h hl=>by
   obtain⟨A5,c5,B5,d5,rfl,q1,q2,q3,q4,q5⟩:=h;have q5:I64 (min r.high last):=q5;exact⟨A5,c5,B5,d5,rfl,q1,q2,q3,q4,by unfold I64 at q5 ⊢;show _≤min _ last∧min _ last≤_;omega⟩
 refine sI ?_;intros;try refine dv ?_
 intros;refine gr 0 0 ?_;refine sJ c81r16.eq_1 ?_;intros;exact dC (dG _ rfl (List.Sublist.refl _) eg (wG hyr hz5 hRi))
theorem wX(p:Pt)(cs:List Value)(n:Int)(G:Nat→Option Obj)(hp:PE G p cs)(hsm:smP p)(hn:I64 n)
  (hins:Dw Tryz.prog 84 3∨n∈p.isr∨∀ k r j lead,atR p.reps n=some k→p.reps[k]?=some r→atR p.reps p.leader=some j→p.reps[j]?=some lead→eD (dN r lead).log < lead.high) :
  FnD Tryz.prog 33 #[.agg cs.toArray,.int .i64 n] G (PtR (ofP p n (hO n))):=by
 have hp0:=hp;obtain⟨A,c,B,d,rfl,-,-,hI⟩:=hp;refine F33.fnD (by simp) (dF ?_);unfold c33;unfold dY at hp0 ⊢;intros;refine gr 0 0 ?_;refine sJ c33r0.eq_1 ?_;intro b3 hb3;refine sI ?_;intros;refine ed (ec [_] _) ?_;rintro h' ⟨G1,rfl,hg1,f3⟩;have f3:=f3 0 _ rfl;rw[es]at f3
 have hof:=uR p _ n 81 #[.pointer (some ⟨b3,0,none⟩)] (hO n p) G1 (hp0.le hg1) hsm hn fun hok k r hk hr=>zx p n b3 k r G1 hok hsm hI hn f3 hk hr (by
  rcases hins with h | h | h
  ·exact .inl h
  ·exact .inr (.inl h)
  ·exact .inr (.inr fun j lead=>h k r j lead hk hr))
 rw[← je]at hof;intros;refine gr 6 12 ?_;refine sJ c33r1.eq_1 ?_;refine⟨_,⟨_,rfl,.g f3⟩,?_⟩;refine sI ?_;refine(hof _ _).mono ?_;rintro r h' ⟨G2,rfl,hg2,cs2,rfl,hpe⟩;have hpe0:=hpe;obtain⟨A2,c2,B2,d2,rfl,-⟩:=hpe;unfold dY at hpe0 ⊢;refine sI ?_;intros;refine rV ?_;simp only[push_cast,Nat.reduceBEq];exact⟨_,rfl,hpe0⟩
def xG:Go.Shelf.Ren:=⟨fun n=>if n=21 then 84 else if n=27 then 138 else if n=28 then 139 else if n=35 then 171 else 193,fun n=>if n=3 then 3 else if n=4 then 4 else if n=22 then 22 else 0,fun n=>n⟩
theorem xW:Go.Proofs.Lays2.n21 Tryz.prog xG where
 mixed:=by kernel_rfl
 f21:=Tryz.func84.trans (congrArg some (by kernel_rfl))
 f27:=Tryz.func138.trans (congrArg some (by kernel_rfl))
 f28:=Tryz.func139.trans (congrArg some (by kernel_rfl))
 f35:=Tryz.func171.trans (congrArg some (by kernel_rfl))
 f39:=Tryz.func193.trans (congrArg some (by kernel_rfl))
 t0:=Tryz.underlying0
 a0:=Tryz.isAgg0
 z0:=Tryz.sizeOf0
 v0:=Tryz.zeroValue0
 t3:=Tryz.underlying3
 a3:=Tryz.isAgg3
 z3:=Tryz.sizeOf3
 v3:=Tryz.zeroValue3
 t4:=Tryz.underlying4
 a4:=Tryz.isAgg4
 z4:=Tryz.sizeOf4
 v4:=Tryz.zeroValue4
 t22:=Tryz.underlying22
 a22:=Tryz.isAgg22
 z22:=Tryz.sizeOf22
 v22:=Tryz.zeroValue22
 i3:=by kernel_rfl
theorem eN(cs xs:List Value)(o:Nat)(h:o+xs.length≤cs.length):(Kx.splice cs o xs).length=cs.length:=by
 simp only[Kx.splice,List.length_append,List.length_take,List.length_drop];omega
theorem vY{α:Type}{E:α→List Value→Prop}{sz:Nat}(h1:∀ x cs,E x cs→∀ u∈cs,u.oneCell'=true):∀ {xs:List α} {ys:List Value},Cells E sz xs ys→∀ u∈ys,u.oneCell'=true
 | _,_,.nil,u,hu=>by cases hu
 | _,_,.cons hE _ ht,u,hu=>by
  rcases List.mem_append.1 hu with h | h
  ·exact h1 _ _ hE u h
  ·exact vY h1 ht u h
theorem tE(cur vs:List Value)(o:Nat)(v:Value)(h:o < cur.length):Kx.splice (cur.set o v) (o+1) vs=Kx.splice cur o (v :: vs):=by
 have hs:cur.set o v=cur.take o++v :: cur.drop (o+1):=by rw[List.set_eq_take_append_cons_drop,if_pos h]
 have hl:(cur.take o).length=o:=by rw[List.length_take];omega
 have e1:(cur.take o++v :: cur.drop (o+1)).take (o+1)=cur.take o++[v]:=by
  rw[List.take_append,hl,List.take_of_length_le (l:=cur.take o) (i:=o+1) (by omega),show o+1 - o=1 by omega];rfl
 have e2:(cur.take o++v :: cur.drop (o+1)).drop (o+1+vs.length)=cur.drop (o+(vs.length+1)):=by
  rw[List.drop_append,hl,show(cur.take o).drop (o+1+vs.length)=[]from List.drop_eq_nil_of_le (by omega),show o+1+vs.length - o=vs.length+1 by omega,List.nil_append,List.drop_succ_cons,List.drop_drop];congr 1;omega
 unfold Kx.splice;rw[hs,e1,e2];simp
theorem gg(b:Nat)(t:TypeId)(fr:Nat × Nat):∀ (vs:List Value) (o:Nat) (w:World) (cur:List Value),w.heap[b]?=some (.cells cur.toArray t fr)→o+vs.length≤cur.length →
  ∃ h,w.setCells b o vs={ w with heap:=h }∧h[b]?=some (.cells (Kx.splice cur o vs).toArray t fr)∧(∀ b',b'≠b→h[b']?=w.heap[b']?)∧h.size=w.heap.size
 | [],o,w,cur,hw,ho=>⟨w.heap,rfl,by rw[hw];simp[Kx.splice],fun _ _=>rfl,rfl⟩
 | v :: vs,o,w,cur,hw,ho=>by
  simp only[List.length_cons]at ho;have h1:(w.setCell ⟨b,o,none⟩ v).heap[b]?=some (.cells (cur.set o v).toArray t fr):=by simp[World.setCell,Array.getElem?_modify,hw]
  obtain⟨h,e1,e2,e3,e4⟩:=gg b t fr vs (o+1) (w.setCell ⟨b,o,none⟩ v) (cur.set o v) h1 (by simp;omega);refine⟨h,?_,?_,fun b' hb=>?_,?_⟩
  ·rw[World.setCells,e1];rfl
  ·rw[e2,tE _ _ _ _ (by omega)]
  ·rw[e3 b' hb];simp[World.setCell,Array.getElem?_modify,Ne.symm hb]
  ·rw[e4];simp[World.setCell]
theorem r9:∀ {l:List Int} {n:Int} {j:Nat},n∉l→j≤l.length→(∀ t y,l[t]?=some y→(t < j→y < n)∧(j≤t→n≤y))→ft l n=l.take j++n :: l.drop j
 | [],n,j,_,_,_=>by simp[ft]
 | x :: l,n,j,hn,hj,hat=>by
  have hne:x≠n:=fun h=>hn (by rw[h];exact .head _)
  have h0:=hat 0 x rfl;rw[ft];cases j with
  | zero =>
   have:=h0.2 (Nat.le_refl _);rw[if_neg (by omega),if_neg hne];rfl
  | succ j =>
   have:=h0.1 (by omega);rw[if_pos this,r9 (j:=j) (fun h=>hn (.tail _ h)) (by simpa using hj) fun t y ht=>by have:=hat (t+1) y ht;exact⟨fun h=>this.1 (by omega),fun h=>this.2 (by omega)⟩];rfl
theorem nH(a b:List Value)(x n:Value)(j:Nat)(h:a.length=j):Kx.splice (a++x :: b) j [n]=a++n :: b:=by
 subst h;simp[Kx.splice]
theorem vt{ys r:List Value}{z n:Value}{j:Nat}(h:j < ys.length):((Kx.splice (Kx.splice (ys++z :: r) (j+1) (ys.drop j)) j [n])).take (ys.length+1)=ys.take j++n :: ys.drop j:=by
 have hl:(ys.take j).length=j:=by rw[List.length_take];omega
 have e1:Kx.splice (ys++z :: r) (j+1) (ys.drop j)=ys.take j++ys[j] :: (ys.drop j++r):=by
  unfold Kx.splice;rw[List.length_drop,show j+1+(ys.length - j)=ys.length+1 by omega,List.take_append_of_le_length (show j+1≤ys.length by omega),List.drop_append,show ys.drop (ys.length+1)=[]from List.drop_eq_nil_of_le (by omega),show ys.length+1 - ys.length=1 by omega,List.take_succ_eq_append_getElem h]
  simp only[List.append_assoc,List.cons_append,List.nil_append,List.drop_succ_cons,List.drop_zero]
 rw[e1,nH _ _ _ _ _ hl,show ys.take j++n :: (ys.drop j++r)=(ys.take j++n :: ys.drop j)++r by simp,show ys.length+1=(ys.take j++n :: ys.drop j).length by simp;omega,List.take_left]
theorem zr(a r:List Value)(x:Value)(k:Nat)(h:a.length=k):(a++x :: r).take (k+1)=a++[x]:=by
 subst h;rw[show a++x :: r=(a++[x])++r by simp,show a.length+1=(a++[x]).length by simp,List.take_left]
theorem zI{a d Z Z2:List Value}{z n:Value}{j k:Nat}(hj:a.length=j)(hz:Z.length=d.length)(hk:k=j+1+d.length):(Kx.splice (Kx.splice (a++(z :: Z)++Z2) j [n]) (j+1) d).take k=a++n :: d:=by
 subst hj hk;have e:Kx.splice (a++(z :: Z)++Z2) a.length [n]=(a++[n])++(Z++Z2):=by
  rw[List.append_assoc,List.cons_append,nH _ _ _ _ _ rfl];simp
 rw[e,show a.length+1=(a++[n]).length+0 by simp,Kx.splice_app,Kx.spl_0,Nat.add_zero,show(a++[n]).length+d.length=((a++[n])++d).length by simp;omega,← List.append_assoc,List.take_left];simp
theorem Jl:Dw Tryz.prog 84 3:=by
 intro l n j A c b ys G hs hn hjat hlen hi hy L D;refine⟨Kx.enters_of Tryz.func84 (by kernel_rfl) (by kernel_rfl),fun β w hw=>?_⟩;obtain⟨hj,hat⟩:=hjat;have hyl:ys.length=l.length:=by have:=hy.len;omega
 have hjn:ft l n=l.take j++n :: l.drop j:=r9 hn hj hat;have hy':Cells IE 1 (ft l n) (ys.take j++(.int .i64 n :: ys.drop j)):=by
  obtain⟨h1,h2⟩:=hy.split j hj;rw[Nat.mul_one]at h1 h2;rw[hjn];exact h1.app (.cons (cs:=[_]) ⟨rfl,hi⟩ rfl h2)
 have hyl':(ys.take j++(Value.int .i64 n :: ys.drop j)).length=l.length+1:=by simp;omega
 have hle:(ft l n).length=l.length+1:=by rw[hjn];simp;omega
 have r1:nn w _ _ 1 1 _:=hw.l _ (.head _);have r2:nn w _ _ 1 l.length ys:=hw.l _ (.tail _ (.head _));rcases r1.2 with⟨A0,hA0,h10⟩ | ⟨g,cap,cur,hv,-,hg,-,-,hcs,htk⟩
 ·cases h10
 cases hv;have hvs:∀ k v,[Value.int .i64 n][k]?=some v→w.cell? ⟨b,0+k,none⟩=some v:=fun k v hk=>by
  rw[← htk,List.getElem?_take]at hk;split at hk
  ·simp only[World.cell?,hg];simpa using hk
  ·cases hk
 have h1v:∀ v∈[Value.int .i64 n],v.oneCell'=true:=by simp[Value.oneCell']
 have h1c:∀ v∈ys,v.oneCell'=true:=vY IE1 hy;have fin:∀ (w':World) (v':Value),nn w' v' 3 1 (l.length+1) (ys.take j++(.int .i64 n :: ys.drop j))→w'.os=w.os→w'.tape=w.tape→w'.output=w.output→w.heap.size≤w'.heap.size →
   (∀ b',b' < w.heap.size→dZ (.slice A l.length c)≠some b'→w'.heap[b']?=w.heap[b']?)→(∀ b',dZ v'=some b'→dZ (.slice A l.length c)=some b'∨w.heap.size≤b')→(∃ A' c',v'=.slice A' (l.length+1) c') →
   ∃ v h',Ending.returned v'=.returned v∧(h'.D=D∧gi h' ⟨G,[.row (.slice (some ⟨b,0,none⟩) 1 1) 3 1 1 [.int .i64 n],.row (.slice A l.length c) 3 1 l.length ys]++L,D⟩)∧Sat β h' w'∧Step β ⟨G,[.row (.slice (some ⟨b,0,none⟩) 1 1) 3 1 1 [.int .i64 n],.row (.slice A l.length c) 3 1 l.length ys]++L,D⟩ w β h' w' ∧
    ∃ G' L',h'=⟨G',L'++L,D⟩∧Gle G G'∧∃ A' c' ys',v=.slice A' (ft l n).length c'∧Cells IE 1 (ft l n) ys'∧L'=[.row v 3 1 (ft l n).length ys']:=by
  intro w' v' hrow ho ht hout hsz hold hb ⟨A',c',hv'⟩;have s1:=qP hw (L':=.row (.slice A l.length c) 3 1 l.length ys :: L) (.cons _ (List.Sublist.refl _));have s2:=jo (L1:=[]) (it':=.row v' 3 1 (l.length+1) (ys.take j++(.int .i64 n :: ys.drop j))) s1.1 ho ht hout hsz hold hrow hb
  refine⟨v',⟨G,.row v' 3 1 (l.length+1) (ys.take j++(.int .i64 n :: ys.drop j)) :: L,D⟩,rfl,⟨rfl,fun s cs h=>?_⟩,s2.1,s1.2.trans s2.2,G,[_],rfl,.refl _,A',c',_,by rw[hle];exact hv',hy',by rw[hle]⟩;rcases List.mem_cons.1 h with h | h
  ·cases h
  ·exact⟨cs,.tail _ (.tail _ h)⟩
 have hf21:xG.f 21=84:=rfl
 -- a new row behind the others
 have endg:∀ (cs:List Value),cs=ys→j=l.length→l.length≤c→c < l.length+1→(A=none→l.length=0)→(∀ a,A=some a→∀ k v,cs[k]?=some v→w.cell? (a.add k)=some v) →
   Calls Tryz.prog 84 #[.slice A l.length c,.int .i64 j,.slice (some ⟨b,0,none⟩) 1 1] w fun x w'=>∃ v h',x=.returned v∧(h'.D=D∧gi h' ⟨G,[.row (.slice (some ⟨b,0,none⟩) 1 1) 3 1 1 [.int .i64 n],.row (.slice A l.length c) 3 1 l.length ys]++L,D⟩)∧Sat β h' w'∧Step β ⟨G,[.row (.slice (some ⟨b,0,none⟩) 1 1) 3 1 1 [.int .i64 n],.row (.slice A l.length c) 3 1 l.length ys]++L,D⟩ w β h' w' ∧
    ∃ G' L',h'=⟨G',L'++L,D⟩∧Gle G G'∧∃ A' c' ys',v=.slice A' (ft l n).length c'∧Cells IE 1 (ft l n) ys'∧L'=[.row v 3 1 (ft l n).length ys']:=by
  rintro cs rfl rfl hnc hroom hnil hcells;have hc:=Any2.slices_Insert_int_end_grow xW A l.length c b 0 1 1 cs [.int .i64 n] w (by omega) hnc hroom (by omega) hyl rfl hnil hcells hvs h1v;refine hc.mono ?_;rintro e w' ⟨rfl,rfl⟩;have hge:=grownCap_ge w (l.length+1) c (xG.t 3);have hcm:grownCap w (l.length+1) c (xG.t 3)≤maxLen:=grownCap_le_maxLen w (l.length+1) c _ (by unfold maxLen;omega)
  refine fin _ _ ⟨by omega,.inr ⟨_,_,_,rfl,by omega,heap_alloc_new w.drew _,hge,hcm,?_,?_⟩⟩ rfl rfl rfl (by simp) (fun b' hb' _=>heap_alloc_old w.drew _ hb') (fun b' hb'=>.inr ?_) ⟨_,_,rfl⟩
  ·simp[size_zeroCells,Value.cells];omega
  ·rw[← hyl,List.take_of_length_le (Nat.le_refl _),List.drop_eq_nil_of_le (Nat.le_refl _)];simp only[Array.toList_append,List.append_assoc,List.cons_append,List.nil_append,Nat.mul_one];exact zr _ _ _ _ rfl
  ·have hc':¬ grownCap w (l.length+1) c (xG.t 3)=0:=by omega
   simp[dZ,hc']at hb';omega
 rcases r2.2 with⟨A0,hA,hl0⟩ | ⟨g2,cap2,cur2,hv2,hc2,hg2,hnc,hcm,hcs2,htk2⟩
 ·have hc0:c=0:=by injection hA
  exact endg ys rfl (by omega) (by omega) (by omega) (fun _=>hl0) fun a _ k v hk=>by
   have:ys=[]:=List.eq_nil_of_length_eq_zero (by omega);rw[this]at hk;cases hk
 ·injection hv2 with hA _ hcc
  subst hA hcc;rw[Nat.mul_one]at hcs2 htk2;have hcell:∀ k v,ys[k]?=some v→w.cell? ⟨g2,0+k,none⟩=some v:=fun k v hk=>by
   rw[← htk2,List.getElem?_take]at hk;split at hk
   ·simp only[World.cell?,hg2];simpa using hk
   ·cases hk
  have hne:b≠g2:=by
   have hnd:=hw.nd';intro he;subst he;have hc0:¬ c=0:=by omega
   simp[dom,Item.block,dZ,hc0]at hnd
  have hg2':w.heap[g2]?=some (.cells cur2.toList.toArray 3 (0,0)):=hg2;have hcl:cur2.toList.length=c:=by simpa using hcs2
  have hrb:dZ (.slice (some ⟨g2,0,none⟩) l.length c)=some g2:=by
   have hc0:¬ c=0:=by omega
   simp[dZ,hc0]
  have hrb':dZ (.slice (some ⟨g2,0,none⟩) (l.length+1) c)=some g2:=by
   have hc0:¬ c=0:=by omega
   simp[dZ,hc0]
  have hsp:∀ k,k < c→(w.cell? ⟨g2,0+k,none⟩).isSome=true:=fun k hk=>by
   simp only[World.cell?,hg2];simp;omega
  have hfz:∀ k,w.frozen? ⟨g2,k,none⟩=false:=fun k=>by simp[World.frozen?,hg2]
  by_cases hroom:l.length+1≤c
  ·by_cases hji:j < l.length
   ·have hc:=Any2.slices_Insert_int_shift xW g2 0 l.length c j b 0 1 1 ys [.int .i64 n] w hji (by omega) hroom (by unfold maxLen at hcm;omega) hne hyl rfl hcell (fun k hk=>hsp k (by omega)) (fun k _=>hfz _) hvs h1c h1v 3 3 cur.size cur2.size (by simp[World.shape?,hg]) (by simp[World.shape?,hg2]) (by omega) (by simp[World.frozen?,hg]) (by simp[World.frozen?,hg]);refine hc.mono ?_
    rintro e w' ⟨rfl,rfl⟩;have hcut:cur2.toList=ys++cur2.toList.drop l.length:=by conv=>lhs;rw[← List.take_append_drop l.length cur2.toList,htk2]
    obtain⟨z,r,hzr⟩:∃ z r,cur2.toList.drop l.length=z :: r:=by
     cases h:cur2.toList.drop l.length with
     | nil=>have:=congrArg List.length h;simp at this;omega
     | cons z r=>exact⟨z,r,rfl⟩
    rw[hzr]at hcut;obtain⟨h1,e1,e2,e3,e4⟩:=gg g2 3 (0,0) (ys.drop j) (0+(j+1)) w.drew cur2.toList hg2' (by rw[List.length_drop];omega);rw[e1];obtain⟨h2,e5,e6,e7,e8⟩:=gg g2 3 (0,0) [.int .i64 n] (0+j) { w.drew with heap:=h1 } _ e2 (by rw[eN _ _ _ (by rw[List.length_drop];omega)];simp only[List.length_cons,List.length_nil];omega);rw[e5];have e8':h2.size=w.heap.size:=e8.trans e4
    refine fin _ _ ⟨by omega,.inr ⟨g2,c,_,rfl,hc2,e6,hroom,hcm,?_,?_⟩⟩ rfl rfl rfl (by show _≤h2.size;omega) (fun b' hb' hne'=>?_) (fun b' hb'=>.inl (by rw[hrb];rw[hrb']at hb';exact hb')) ⟨_,_,rfl⟩
    ·rw[List.size_toArray,eN _ _ _ (by rw[eN _ _ _ (by rw[List.length_drop];omega)];simp only[List.length_cons,List.length_nil];omega),eN _ _ _ (by rw[List.length_drop];omega)];omega
    ·rw[Nat.mul_one,hcut,Nat.zero_add,Nat.zero_add,← hyl];exact vt (by omega)
    ·have hb2:b'≠g2:=fun h=>hne' (by rw[hrb,h])
     exact(e7 b' hb2).trans (e3 b' hb2)
   ·have hjl:j=l.length:=by omega
    subst hjl;have hc:=Any2.slices_Insert_int_end_room xW g2 0 l.length c b 0 1 1 [.int .i64 n] w (by omega) hroom (by unfold maxLen at hcm;omega) rfl (fun k hk=>by rw[Nat.add_assoc];exact hsp _ (by omega)) (fun k _=>hfz _) hvs h1v;refine hc.mono ?_;rintro e w' ⟨rfl,rfl⟩
    obtain⟨h1,e1,e2,e3,e4⟩:=gg g2 3 (0,0) [.int .i64 n] (0+l.length) w cur2.toList hg2' (by simp only[List.length_cons,List.length_nil];omega);rw[e1];refine fin _ _ ⟨by omega,.inr ⟨g2,c,_,rfl,hc2,e2,hroom,hcm,?_,?_⟩⟩ rfl rfl rfl (by show _≤h1.size;omega) (fun b' hb' hne'=>?_) (fun b' hb'=>.inl (by rw[hrb];rw[hrb']at hb';exact hb')) ⟨_,_,rfl⟩
    ·rw[List.size_toArray,eN _ _ _ (by simp only[List.length_cons,List.length_nil];omega)];omega
    ·rw[← hyl,List.take_of_length_le (Nat.le_refl _),List.drop_eq_nil_of_le (Nat.le_refl _)];show(Kx.splice _ _ _).take _=_;unfold Kx.splice;rw[Nat.zero_add,Nat.mul_one,hyl,htk2,List.take_append_of_le_length (by simp;omega),List.take_of_length_le (by simp;omega)]
    ·exact e3 b' fun h=>hne' (by rw[hrb,h])
  ·by_cases hji:j < l.length
   ·have hc:=Any2.slices_Insert_int_grow xW g2 0 l.length c j b 0 1 1 ys [.int .i64 n] w hji (by omega) hnc (by omega) (by omega) hyl rfl hcell hvs h1c h1v;refine hc.mono ?_;rintro e w' ⟨rfl,rfl⟩;have hge:=grownCap_ge w (l.length+1) c (xG.t 3);have hcm:grownCap w (l.length+1) c (xG.t 3)≤maxLen:=grownCap_le_maxLen w (l.length+1) c _ (by unfold maxLen;omega)
    generalize grownCap w (l.length+1) c (xG.t 3)=gc at *;obtain⟨Z1,hZ1⟩:∃ Z:List Value,Z=(Builtin.zeroCells (Value.int .i64 0).cells (l.length+1 - j)).toList:=⟨_,rfl⟩;obtain⟨Z2,hZ2⟩:∃ Z:List Value,Z=(Builtin.zeroCells (Value.int .i64 0).cells (gc - (l.length+1))).toList:=⟨_,rfl⟩;have z1:Z1.length=l.length+1 - j:=by rw[hZ1];simp[size_zeroCells,Value.cells]
    have z2:Z2.length=gc - (l.length+1):=by rw[hZ2];simp[size_zeroCells,Value.cells]
    have hnew:(w.alloc (.cells ((ys.take j).toArray++Builtin.zeroCells (Value.int .i64 0).cells (l.length+1 - j)++Builtin.zeroCells (Value.int .i64 0).cells (gc - (l.length+1))) (xG.t 3))).drew.heap[w.heap.size]?=some (.cells (ys.take j++Z1++Z2).toArray 3 (0,0)):=by
     refine(heap_alloc_new w _).trans ?_;rw[hZ1,hZ2];simp;rfl
    have hlt:(ys.take j).length=j:=by rw[List.length_take];omega
    have hll:(ys.take j++Z1++Z2).length=gc:=by simp only[List.length_append,hlt,z1,z2];omega
    obtain⟨h1,e1,e2,e3,e4⟩:=gg w.heap.size 3 (0,0) [.int .i64 n] j _ _ hnew (by rw[hll];simp only[List.length_cons,List.length_nil];omega);rw[e1]
    obtain⟨h2,e5,e6,e7,e8⟩:=gg w.heap.size 3 (0,0) (ys.drop j) (j+1) (World.drew { (w.alloc (.cells ((ys.take j).toArray++Builtin.zeroCells (Value.int .i64 0).cells (l.length+1 - j)++Builtin.zeroCells (Value.int .i64 0).cells (gc - (l.length+1))) (xG.t 3))).drew with heap:=h1 }) _ e2 (by rw[eN _ _ _ (by rw[hll];simp only[List.length_cons,List.length_nil];omega),List.length_drop,hll];omega);rw[e5]
    have e8':h2.size=w.heap.size+1:=e8.trans (e4.trans (by simp));refine fin _ _ ⟨by omega,.inr ⟨w.heap.size,gc,_,rfl,by omega,e6,hge,hcm,?_,?_⟩⟩ rfl rfl rfl (by show _≤h2.size;omega) (fun b' hb' _=>?_) (fun b' hb'=>.inr ?_) ⟨_,_,rfl⟩
    ·rw[List.size_toArray,eN _ _ _ (by rw[eN _ _ _ (by rw[hll];simp only[List.length_cons,List.length_nil];omega),List.length_drop,hll];omega),eN _ _ _ (by rw[hll];simp only[List.length_cons,List.length_nil];omega),hll];omega
    ·obtain⟨z,Z,hzZ⟩:∃ z Z,Z1=z :: Z:=by
      cases Z1 with
      | nil=>simp at z1;omega
      | cons z Z=>exact⟨z,Z,rfl⟩
     rw[hzZ];rw[hzZ]at z1;simp only[List.length_cons]at z1;exact zI hlt (by rw[List.length_drop];omega) (by rw[List.length_drop];omega)
    ·refine(e7 b' (by omega)).trans ((e3 b' (by omega)).trans ?_);exact heap_alloc_old w _ hb'
    ·have hc':¬ gc=0:=by omega
     simp[dZ,hc']at hb';omega
   ·refine endg ys rfl (by omega) hnc (by omega) (fun h=>by cases h) fun a ha k v hk=>?_
    cases ha;have:=hcell k v hk;rw[Addr.add_lit];exact this
def exB:Batch:=⟨0,1,0,0,-1,0,0,false,0,[⟨0,⟨#[]⟩,⟨#[118]⟩,false,0⟩,⟨1,⟨#[]⟩,⟨#[119]⟩,false,0⟩]⟩
def uc:Batch:={ exB with epoch:=1 }
theorem vC:fp exB=0:=by decide +kernel
theorem ow:fp uc=0:=by decide +kernel
theorem zi:(dH uc).length≤4096:=by have:=(iP ow).2;omega
theorem AH:eW exB 0=(exB,0):=by
 have h:tY exB 0=exB:=by decide +kernel
 rw[eW,if_pos (by decide),if_pos vC,h,if_pos vC]
def o4:Lg:=⟨4096,0,[⟨0,[]⟩]⟩
def lS:Lg:=⟨4096,0,[⟨0,dH uc⟩]⟩
theorem zP:mr 4096 0=true:=by decide
theorem Es:vA 4096 0=(o4,0):=by rw[vA,if_pos zP];rfl
theorem tS:fj o4=0:=BQ zP
theorem CX:eD o4=0:=by rw[eD,if_pos tS];rfl
theorem lT:gR o4 uc=(lS,0):=by
 have h1:xm o4=⟨0,[]⟩:=rfl;have hl:=zi;have h2:jn ⟨0,[]⟩ uc 4096=(⟨0,dH uc⟩,0):=by
  have h3:=zV (s:=⟨0,[]⟩) (b:=uc) (limit:=4096) (eI.2 ⟨rfl,by decide⟩) (by decide) ow (by decide);rw[h3,if_neg (by simp;omega)];simp
 have hlm:o4.limit=4096:=rfl;rw[gR,if_pos tS,if_pos ow,if_neg (by decide),if_neg (by rw[hlm];omega),h1,hlm,h2,if_pos rfl];rfl
theorem ox:fj lS=0:=by
 obtain⟨-,-,h,-⟩:=iW (l:=o4) (b:=uc) (by rw[lT])
 rwa [lT]at h
theorem nP:eD lS=2:=by
 obtain⟨-,-,-,h,-⟩:=iW (l:=o4) (b:=uc) (by rw[lT]);rw[lT]at h;rw[eD,if_pos ox];exact h
theorem HQ:iC o4=[]:=by rw[iC,if_pos tS];rfl
theorem Hz:iC lS=[uc]:=by
 have:=oC (l:=o4) (b:=uc) (by rw[lT]);rw[lT]at this;rw[iC,if_pos ox];exact this
theorem En:lZ o4 0=(o4,0):=by
 have h1:wV o4 0=true:=by decide
 rw[lZ,if_pos tS,if_pos h1];rfl
theorem Cp:lz lS 0=lS:=by
 have h:∀ s:Sg,mF s 0=s:=fun s=>by
  unfold mF;rw[show(min (0:Int) s.bytes.length).toNat=0 by omega,Nat.sub_zero,List.take_length]
 unfold lz;rw[h];rfl
def exR(n:Int)(up:Bool)(l:Lg)(e:List Ep)(h:Int):Rp:=⟨n,up,l,e,h⟩
def exE:List Ep:=[(1,0)]
theorem xt:gQ exE=0:=by
 unfold gQ;rw[if_pos];intro i x hi hx
 match i,hi,hx with
 | 0,_,hx=>cases hx;exact⟨by decide,fun p h=>absurd h (by omega)⟩
theorem DI:gQ ([]:List Ep)=0:=by
 unfold gQ;rw[if_pos];intro i x hi;simp at hi
theorem Fw:iI [] 1 0=(exE,0):=by
 rw[rH DI (by decide)];rfl
theorem Ej:nf exE 2=exE:=by
 unfold nf;rw[xt];rfl
theorem Ha(b:List Ep)(ae be:Int):lY [] b ae be=0:=by
 unfold lY;split
 ·rename_i h;exact vi (Classical.choose_spec h) (.inr (.inr (.inl rfl)))
 ·rfl
theorem HM:lY exE exE 2 2=2:=by
 refine sj (.inr ⟨xt,xt,.inr ⟨0,(1,0),0,(1,0),rfl,rfl,rfl,fun i' x' k' y' hi hx=>?_,rfl⟩⟩);have:=(List.getElem?_eq_some_iff.1 hx).1;simp[exE]at this;omega
def iZ(n:Int):Rp:=exR n true o4 [] 0
def fl(n h:Int):Rp:=exR n true lS exE h
def exD:Rp:=exR 0 false lS exE 2
theorem nj{n:Int}(h:idI n=true):okR (iZ n):=⟨⟨h,DI,by show(0:Int)≤0;decide,by show(0:Int)≤_;decide⟩,tS,fun _=>by show(0:Int)≤eD o4;rw[CX];decide⟩
theorem oq{n m:Int}(h:idI n=true)(h1:0≤m)(h2:m≤2):okR (fl n m):=⟨⟨h,xt,h1,by show m≤_;omega⟩,ox,fun _=>by show m≤eD lS;rw[nP];exact h2⟩
theorem Iq:okR exD:=⟨⟨by decide,xt,by decide,by decide⟩,by show fj (ia lS).1=0;rw[rx ox];exact ox,fun h=>by cases h⟩
def exP(ep ld:Int)(is:List Int)(a b c:Rp):Pt:=⟨ep,ld,1,is,[a,b,c]⟩
theorem CV{ep ld:Int}{is:List Int}{a b c:Rp}(h1:idI ep=true)(h2:fM [a,b,c]=[0,1,2])(h3:okR a∧okR b∧okR c)(h4:fm is∧∀ n∈is,n∈([0,1,2]:List Int))(h5:ld=-1∨(∃ r∈[a,b,c],r.id=ld∧r.up=true)∧ld∈is):fa (exP ep ld is a b c)=0:=by
 refine jb ⟨⟨h1,?_,by show[a,b,c].length≤5;simp,⟨by show(1:Int)≤1;omega,by show(1:Int)≤(([a,b,c].length:Nat):Int);simp⟩,fun r hr=>?_⟩,⟨h4.1,fun n hn=>?_⟩,h5⟩
 ·show fm (fM [a,b,c]);rw[h2];refine⟨by simp,fun n hn=>?_,by decide⟩;simp at hn;rcases hn with rfl | rfl | rfl <;> decide
 ·have hr:r∈[a,b,c]:=hr;simp at hr;rcases hr with rfl | rfl | rfl
  ·exact h3.1
  ·exact h3.2.1
  ·exact h3.2.2
 ·show n∈fM [a,b,c];rw[h2];exact h4.2 n hn
theorem FJ:fm [0,1,2]∧∀ n∈([0,1,2]:List Int),n∈([0,1,2]:List Int):=⟨⟨by simp,by decide,by decide⟩,fun n h=>h⟩
theorem r01:fm [0,1]∧∀ n∈([0,1]:List Int),n∈([0,1,2]:List Int):=⟨⟨by simp,by decide,by decide⟩,by decide⟩
theorem r1:fm [1]∧∀ n∈([1]:List Int),n∈([0,1,2]:List Int):=⟨⟨by simp,by decide,by decide⟩,by decide⟩
def Ag:Pt:=exP 1 0 [0,1,2] (iZ 0) (iZ 1) (iZ 2)
def qf:Pt:=exP 1 0 [0,1,2] (fl 0 0) (iZ 1) (iZ 2)
def ua:Pt:=exP 1 0 [0,1,2] (fl 0 0) (fl 1 0) (iZ 2)
def tW:Pt:=exP 1 0 [0,1] (fl 0 2) (fl 1 0) (iZ 2)
def nu:Pt:=exP 1 (-1) [1] exD (fl 1 0) (iZ 2)
def sS:Pt:=exP 2 1 [1] exD (fl 1 2) (iZ 2)
def yL:Pt:=exP 2 1 [1] (fl 0 2) (fl 1 2) (iZ 2)
theorem Hk:fa Ag=0:=CV (by decide) rfl ⟨nj (by decide),nj (by decide),nj (by decide)⟩ FJ (.inr ⟨⟨iZ 0,.head _,rfl,rfl⟩,.head _⟩)
theorem Ee:fa qf=0:=CV (by decide) rfl ⟨oq (by decide) (by decide) (by decide),nj (by decide),nj (by decide)⟩ FJ (.inr ⟨⟨fl 0 0,.head _,rfl,rfl⟩,.head _⟩)
theorem Fe:fa ua=0:=CV (by decide) rfl ⟨oq (by decide) (by decide) (by decide),oq (by decide) (by decide) (by decide),nj (by decide)⟩ FJ (.inr ⟨⟨fl 0 0,.head _,rfl,rfl⟩,.head _⟩)
theorem Eg:fa tW=0:=CV (by decide) rfl ⟨oq (by decide) (by decide) (by decide),oq (by decide) (by decide) (by decide),nj (by decide)⟩ r01 (.inr ⟨⟨fl 0 2,.head _,rfl,rfl⟩,.head _⟩)
theorem AZ:fa nu=0:=CV (by decide) rfl ⟨Iq,oq (by decide) (by decide) (by decide),nj (by decide)⟩ r1 (.inl rfl)
theorem CF:fa sS=0:=CV (by decide) rfl ⟨Iq,oq (by decide) (by decide) (by decide),nj (by decide)⟩ r1 (.inr ⟨⟨fl 1 2,.tail _ (.head _),rfl,rfl⟩,.head _⟩)
theorem Fq:fa yL=0:=CV (by decide) rfl ⟨oq (by decide) (by decide) (by decide),oq (by decide) (by decide) (by decide),nj (by decide)⟩ r1 (.inr ⟨⟨fl 1 2,.tail _ (.head _),rfl,rfl⟩,.head _⟩)
theorem Bp:z9 [0,1,2] 4096 1=(Ag,0):=by
 unfold z9;rw[Es,if_pos ⟨rfl,FJ.1,by decide,by decide,by decide⟩];rfl
theorem Bj:fa iz=1:=mo fun h=>h.1.2.1.1 rfl
theorem FH(n m h:Int):kD (iZ n) (fl m h)=0:=Ha _ _ _
theorem Im(n m h h':Int):kD (fl n h) (fl m h')=2:=by
 show lY exE exE (eD lS) (eD lS)=2;rw[nP];exact HM
theorem oK{l:List Rp}{k:Nat}{r:Rp}{m n:Int}(h:atR l n=some k):mq l k r m n=m:=by
 unfold mq;rw[h];dsimp only;rw[if_pos rfl]
theorem mS{l:List Rp}{k i:Nat}{r x:Rp}{m n:Int}(h:atR l n=some i)(hik:i≠k)(hx:l[i]?=some x):mq l k r m n=min m (kD x r):=by
 unfold mq;rw[h];dsimp only;rw[if_neg hik,hx]
theorem lN{p q:Pt}(h:fa p=0):mf p (q,0)=(q,0):=by rw[mf,if_pos h];rfl
theorem np{p q:Pt}{e:Int}(h:fa p=0)(he:e≠0):mf p (q,e)=(iz,e):=by rw[mf,if_pos h,if_neg he]
theorem mA(p:Pt)(b:Batch):m8 p b=if (mf p (jI b p).1).2=0 then(mf p (jI b p).1,(jI b p).2)else((iz,(mf p (jI b p).1).2),0):=rfl
theorem wO{p:Pt}{b mb:Batch}{k:Nat}{r:Rp}{en:Int}{al:Lg}{pl:List Ep}(k1:¬ p.leader < 0)(k2:¬ (p.isr.length:Int) < p.least)(hk:atR p.reps p.leader=some k)(hr:p.reps[k]?=some r)(he:eD r.log=en)
  (hm:eW b en=(mb,0)) (ha:gR r.log { mb with epoch:=p.epoch }=(al,0)) (hp:iI r.eps p.epoch mb.base=(pl,0)):jI b p=((dS (fQ p k { r with log:=al,eps:=pl }),0),mb.base):=by
 unfold jI;rw[if_neg k1,if_neg k2,hk];dsimp only;rw[hr];dsimp only;rw[he,hm];dsimp only;rw[if_neg (fun h=>h rfl),ha];dsimp only;rw[if_neg (fun h=>h rfl),hp];dsimp only;rw[if_neg (fun h=>h rfl)]
theorem Hv:dS (exP 1 0 [0,1,2] (fl 0 0) (iZ 1) (iZ 2))=qf:=by
 rw[kh (j:=0) (y:=fl 0 0) (by decide) rfl rfl];have:fD [fl 0 0,iZ 1,iZ 2] 0 (fl 0 0) 2 [0,1,2]=0:=by
  unfold fD;simp only[List.foldl_cons,List.foldl_nil];rw[oK (n:=0) rfl,mS (n:=1) (i:=1) rfl (by decide) rfl,mS (n:=2) (i:=2) rfl (by decide) rfl,FH,FH];rfl
 show fQ _ 0 { fl 0 0 with high:=max 0 (fD [fl 0 0,iZ 1,iZ 2] 0 (fl 0 0) (eD lS) [0,1,2]) }=_;rw[nP,this];rfl
theorem AE:m8 Ag exB=((qf,0),0):=by
 have hF:jI exB Ag=((qf,0),0):=by
  rw[wO (p:=Ag) (b:=exB) (k:=0) (r:=iZ 0) (en:=0) (mb:=exB) (al:=lS) (pl:=exE) (by decide) (by decide) rfl rfl CX AH lT Fw];show((dS (exP 1 0 [0,1,2] (fl 0 0) (iZ 1) (iZ 2)),(0:Int)),(0:Int))=_;rw[Hv]
 rw[mA,hF];dsimp only;rw[lN Hk,if_pos rfl]
theorem Dq:dN (iZ 1) (fl 0 0)=fl 1 0:=by
 have hc:fc o4 lS 0=(lS,true):=by
  unfold fc;dsimp only;rw[En];dsimp only;rw[HQ,Hz,if_neg (by simp)];show jw o4 [uc]=_;rw[jw,lT,if_pos rfl];rfl
 unfold dN;rw[FH];dsimp only;have h0:min 0 (eD (iZ 1).log)=0:=by show min 0 (eD o4)=0;rw[CX];rfl
 have h1:fc (iZ 1).log (fl 0 0).log 0=(lS,true):=hc;rw[h0,h1,if_pos ⟨rfl,by decide,rfl⟩];rfl
theorem Ih:dS (exP 1 0 [0,1,2] (fl 0 0) (fl 1 0) (iZ 2))=ua:=by
 rw[kh (j:=0) (y:=fl 0 0) (by decide) rfl rfl];have:fD [fl 0 0,fl 1 0,iZ 2] 0 (fl 0 0) 2 [0,1,2]=0:=by
  unfold fD;simp only[List.foldl_cons,List.foldl_nil];rw[oK (n:=0) rfl,mS (n:=1) (i:=1) rfl (by decide) rfl,mS (n:=2) (i:=2) rfl (by decide) rfl,Im,FH];rfl
 show fQ _ 0 { fl 0 0 with high:=max 0 (fD [fl 0 0,fl 1 0,iZ 2] 0 (fl 0 0) (eD lS) [0,1,2]) }=_;rw[nP,this];rfl
theorem AN:ofP qf 1 (hO 1)=(ua,0):=by
 rw[je,mG (k:=1) (r:=iZ 1) _ rfl rfl];have hF:hO 1 qf 1 (iZ 1)=(ua,0):=by
  unfold hO;rw[if_neg (by decide),if_neg (by decide),show atR qf.reps qf.leader=some 0 from rfl];dsimp only;rw[show qf.reps[0]?=some (fl 0 0)from rfl];dsimp only;rw[Dq,show eD (fl 1 0).log=2 from nP,if_pos (by decide),show ft qf.isr 1=[0,1,2]from rfl]
  show(fQ (dS (exP 1 0 [0,1,2] (fl 0 0) (fl 1 (min 0 2)) (iZ 2))) 1 { fl 1 0 with high:=min (max (min 0 2) ((dS (exP 1 0 [0,1,2] (fl 0 0) (fl 1 (min 0 2)) (iZ 2))).reps[0]?.getD (fl 0 0)).high) 2 },(0:Int))=_;rw[show min (0:Int) 2=0 from rfl,Ih];rfl
 rw[hF,lN Ee]
theorem FU:dS (exP 1 0 [0,1] (fl 0 0) (fl 1 0) (iZ 2))=tW:=by
 rw[kh (j:=0) (y:=fl 0 0) (by decide) rfl rfl];have:fD [fl 0 0,fl 1 0,iZ 2] 0 (fl 0 0) 2 [0,1]=2:=by
  unfold fD;simp only[List.foldl_cons,List.foldl_nil];rw[oK (n:=0) rfl,mS (n:=1) (i:=1) rfl (by decide) rfl,Im];rfl
 show fQ _ 0 { fl 0 0 with high:=max 0 (fD [fl 0 0,fl 1 0,iZ 2] 0 (fl 0 0) (eD lS) [0,1]) }=_;rw[nP,this];rfl
theorem By:ofP ua 2 (iY 2)=(tW,0):=by
 rw[je,mG (k:=2) (r:=iZ 2) _ rfl rfl];have hF:iY 2 ua 2 (iZ 2)=(tW,0):=by
  unfold iY;rw[if_neg (by decide),if_neg (by decide)];show(dS (exP 1 0 [0,1] (fl 0 0) (fl 1 0) (iZ 2)),(0:Int))=_;rw[FU]
 rw[hF,lN Fe]
theorem zA:ofP tW 0 (gu 0 0)=(nu,0):=by
 rw[je,mG (k:=0) (r:=fl 0 2) _ rfl rfl];have hF:gu 0 0 tW 0 (fl 0 2)=(nu,0):=by
  rw[pz _ _ _ _ _ (by decide) rfl];have h1:ix (fl 0 2) 0=exD:=by
   unfold ix;rw[show lz (fl 0 2).log 0=lS from Cp];rfl
  rw[h1];show(dS nu,(0:Int))=_;rw[show dS nu=nu by unfold dS;rw[if_pos (by decide)]]
 rw[hF,lN Eg]
theorem CR:m8 nu exB=((iz,180),0):=by
 have hF:jI exB nu=((nu,180),0):=by unfold jI;rw[if_pos (by decide)]
 rw[mA,hF];dsimp only;rw[np AZ (by decide),if_neg (by decide)]
theorem EF:ofP nu 2 (fL 2)=(iz,181):=by
 rw[je,mG (k:=2) (r:=iZ 2) _ rfl rfl,fL,if_neg (by decide),if_pos (by decide),np AZ (by decide)]
theorem D9:ofP nu 1 (fL 1)=(sS,0):=by
 rw[je,mG (k:=1) (r:=fl 1 0) _ rfl rfl,fL,if_neg (by decide),if_neg (by decide),if_neg (by decide)];have h:dS { nu with epoch:=nu.epoch+1,leader:=1 }=sS:=by
  rw[kh (j:=1) (y:=fl 1 0) (by decide) rfl rfl];have:fD [exD,fl 1 0,iZ 2] 1 (fl 1 0) 2 [1]=2:=by
   unfold fD;simp only[List.foldl_cons,List.foldl_nil];rw[oK (n:=1) rfl]
  show fQ _ 1 { fl 1 0 with high:=max 0 (fD [exD,fl 1 0,iZ 2] 1 (fl 1 0) (eD lS) [1]) }=_;rw[nP,this];rfl
 rw[h,lN AZ]
theorem AY:gT sS=(lS,0):=by
 rw[gT,if_neg (fun h=>h CF),if_neg (by decide)];rfl
theorem Bn:ofP sS 0 jv=(yL,0):=by
 rw[je,mG (k:=0) (r:=exD) _ rfl rfl,jv,if_neg (by decide)];have h:pk exD=fl 0 2:=by
  unfold pk;rw[show(ia exD.log)=(lS,0)from rx ox];dsimp only;rw[nP,show nf exD.eps 2=exE from Ej];rfl
 rw[h];show mf sS (yL,0)=_;rw[lN CF]
theorem yi:ofP yL 0 jv=(iz,150):=by
 rw[je,mG (k:=0) (r:=fl 0 2) _ rfl rfl,jv,if_pos (show(fl 0 2).up=true from rfl),np Fq (by decide)]
theorem oA{ep ld:Int}{is:List Int}{a b c:Rp}{k:Nat}{r:Rp}(h:fa (exP ep ld is a b c)=0)(h0:0≤ld)(hk:atR [a,b,c] ld=some k)(hr:([a,b,c]:List Rp)[k]?=some r):kl (exP ep ld is a b c)=r.high:=by
 rw[kl,if_neg (fun hh=>hh h),if_pos (show 0≤(exP ep ld is a b c).leader from h0)];show(match atR [a,b,c] ld with | some k=>(([a,b,c]:List Rp)[k]?.map Rp.high).getD 0 | none=>0)=_
 rw[hk];dsimp only;rw[hr];rfl
theorem Gq:kl qf=0:=oA (k:=0) (r:=fl 0 0) Ee (by decide) rfl rfl
theorem GE:kl ua=0:=oA (k:=0) (r:=fl 0 0) Fe (by decide) rfl rfl
theorem HG:kl tW=2:=oA (k:=0) (r:=fl 0 2) Eg (by decide) rfl rfl
theorem GQ:kl sS=2:=oA (k:=1) (r:=fl 1 2) CF (by decide) rfl rfl
theorem F43:Fun Tryz.prog 43 5 v43 c43 o43:=Fun.mkA Tryz.func43 Tryz.ntmps43
theorem F11:Fun Tryz.prog 11 191 v11 c11 o11:=Fun.mkA Tryz.func11 Tryz.ntmps11
theorem mj(G:Nat→Option Obj):FnD Tryz.prog 43 #[] G (fun G' r=>∃ B d,r=.agg #[.int .i64 0,.int .i64 1,.int .i64 0,.int .i64 0,.int .i64 (-1),.int .i64 0,.int .i64 0,.bool false,.int .i64 0,.slice B 2 d]∧BE G' exB [.int .i64 0,.int .i64 1,.int .i64 0,.int .i64 0,.int .i64 (-1),.int .i64 0,.int .i64 0,.bool false,.int .i64 0,.slice B 2 d]):=by
 refine F43.fnD (by simp) (dF ?_);unfold c43;intros;refine gr 0 0 ?_;refine sJ c43r0.eq_1 ?_;intros;refine gr 1 5 ?_;refine sJ c43r1.eq_1 ?_;intro b hb;refine sI ?_;intros;try refine dv ?_
 have z0:(ByteArray.mk #[]).size≤maxLen:=by decide
 have z1:(ByteArray.mk #[118]).size≤maxLen:=by decide
 have z2:(ByteArray.mk #[119]).size≤maxLen:=by decide
 have hra:Cells RR 5 exB.recs [.int .i64 0,.string ⟨#[]⟩,.string ⟨#[118]⟩,.bool false,.int .i64 0,.int .i64 1,.string ⟨#[]⟩,.string ⟨#[119]⟩,.bool false,.int .i64 0] :=
  .cons (cs:=[_,_,_,_,_]) ⟨rfl,⟨iA,iA⟩,z0,z1⟩ rfl (.one ⟨rfl,⟨(by decide:I64 1),iA⟩,z0,z2⟩ rfl)
 refine ed (dQ [] _ (by decide) hra) ?_;rintro h' ⟨G2,rfl,hg2,A2,c2,hA2,hc2,hm2,hs2⟩;cases hA2;intros;refine rV ?_;simp only[push_cast,Nat.reduceBEq];exact⟨some ⟨b,0,none⟩,2,rfl,some ⟨b,0,none⟩,2,rfl,⟨hc2,hm2,hs2⟩,iA,(by decide:I64 1),iA,iA,(by decide:I64 (-1)),iA,iA,iA⟩
theorem gp(n:Int):smR (iZ n):=⟨nN tS,by show(1:Nat)≤1000;decide,by show(0:Nat)≤1000;decide⟩
theorem f0(n h:Int):smR (fl n h):=⟨nN ox,by show(1:Nat)≤1000;decide,by show(1:Nat)≤1000;decide⟩
theorem nB:smR exD:=⟨nN ox,by show(1:Nat)≤1000;decide,by show(1:Nat)≤1000;decide⟩
theorem ir{ep ld:Int}{is:List Int}{a b c:Rp}(h1:smR a)(h2:smR b)(h3:smR c)(hi:is.length≤1000):smP (exP ep ld is a b c):=by
 refine⟨fun r hr=>?_,by show[a,b,c].length≤1000;simp,hi⟩;have hr:r∈[a,b,c]:=hr;simp at hr;rcases hr with rfl | rfl | rfl <;> assumption
theorem iw{P:Program}{f:FuncId}{args:Array Value}{G:Nat→Option Obj}{R R':(Nat→Option Obj)→Value→Prop}(h:FnD P f args G R)(hr:∀ G' r,R G' r→R' G' r):FnD P f args G R':=fun L D=>(h L D).mono fun r h' ⟨G',e,hg,hR⟩=>⟨G',e,hg,hr _ _ hR⟩
theorem ptv{ep ld e:Int}{is:List Int}{a b c:Rp}{G:Nat→Option Obj}{r:Value}(h:PtR (exP ep ld is a b c,e) G r):∃ A c' B d,r=.tuple #[.agg #[.int .i64 ep,.int .i64 ld,.int .i64 1,.slice A is.length c',.slice B 3 d],.int .i64 e]∧PE G (exP ep ld is a b c) [.int .i64 ep,.int .i64 ld,.int .i64 1,.slice A is.length c',.slice B 3 d]:=by
 obtain⟨cs,h1,h2⟩:=h;have h3:=h2;obtain⟨A,c',B,d,rfl,-⟩:=h2;exact⟨A,c',B,d,h1,h3⟩
theorem Iw{e:Int}{G:Nat→Option Obj}{r:Value}(h:PtR (iz,e) G r):∃ A c B d,r=.tuple #[.agg #[.int .i64 0,.int .i64 0,.int .i64 0,.slice A 0 c,.slice B 0 d],.int .i64 e]:=by
 obtain⟨cs,h1,h2⟩:=h;obtain⟨A,c',B,d,rfl,-⟩:=h2;exact⟨A,c',B,d,h1⟩
theorem D5(v:Value)(G:Nat→Option Obj)(hl:SlV G IE 1 v [0,1,2]):FnD Tryz.prog 13 #[v,.int .i64 4096,.int .i64 1] G (fun G' r=>∃ A c B d,r=.tuple #[.agg #[.int .i64 1,.int .i64 0,.int .i64 1,.slice A 3 c,.slice B 3 d],.int .i64 0]∧PE G' Ag [.int .i64 1,.int .i64 0,.int .i64 1,.slice A 3 c,.slice B 3 d]):=by
 have:=CG [0,1,2] 4096 1 v G hl (by decide) (by decide);rw[Bp]at this;exact iw this fun _ _ h=>ptv h
theorem uN{A:Option Addr}{c:Nat}{B:Option Addr}{d:Nat}{cb:List Value}(G:Nat→Option Obj)(hp:PE G Ag [.int .i64 1,.int .i64 0,.int .i64 1,.slice A 3 c,.slice B 3 d])(hb:BE G exB cb):FnD Tryz.prog 25 #[.agg #[.int .i64 1,.int .i64 0,.int .i64 1,.slice A 3 c,.slice B 3 d],.agg cb.toArray] G (fun G' r=>∃ A c B d,r=.tuple #[.agg #[.int .i64 1,.int .i64 0,.int .i64 1,.slice A 3 c,.slice B 3 d],.int .i64 0,.int .i64 0]∧PE G' qf [.int .i64 1,.int .i64 0,.int .i64 1,.slice A 3 c,.slice B 3 d]):=by
 have:=lC Ag exB _ _ G hp (ir (gp _) (gp _) (gp _) (by decide)) hb;rw[AE]at this;refine iw this fun G' r ⟨cs,h1,h2⟩=>?_
 have h3:=h2;obtain⟨A,c',B,d,rfl,-⟩:=h2;exact⟨A,c',B,d,h1,h3⟩
theorem Da{A:Option Addr}{c:Nat}{B:Option Addr}{d:Nat}(G:Nat→Option Obj)(hp:PE G qf [.int .i64 1,.int .i64 0,.int .i64 1,.slice A 3 c,.slice B 3 d]):FnD Tryz.prog 33 #[.agg #[.int .i64 1,.int .i64 0,.int .i64 1,.slice A 3 c,.slice B 3 d],.int .i64 1] G (fun G' r=>∃ A c B d,r=.tuple #[.agg #[.int .i64 1,.int .i64 0,.int .i64 1,.slice A 3 c,.slice B 3 d],.int .i64 0]∧PE G' ua [.int .i64 1,.int .i64 0,.int .i64 1,.slice A 3 c,.slice B 3 d]):=by
 have:=wX qf _ 1 G hp (ir (f0 _ _) (gp _) (gp _) (by decide)) (by decide) (.inr (.inl (by decide)));rw[AN]at this;exact iw this fun _ _ h=>ptv h
theorem AK{A:Option Addr}{c:Nat}{B:Option Addr}{d:Nat}(G:Nat→Option Obj)(hp:PE G ua [.int .i64 1,.int .i64 0,.int .i64 1,.slice A 3 c,.slice B 3 d]):FnD Tryz.prog 44 #[.agg #[.int .i64 1,.int .i64 0,.int .i64 1,.slice A 3 c,.slice B 3 d],.int .i64 2] G (fun G' r=>∃ A c B d,r=.tuple #[.agg #[.int .i64 1,.int .i64 0,.int .i64 1,.slice A 2 c,.slice B 3 d],.int .i64 0]∧PE G' tW [.int .i64 1,.int .i64 0,.int .i64 1,.slice A 2 c,.slice B 3 d]):=by
 have:=xw ua _ 2 G hp (ir (f0 _ _) (f0 _ _) (gp _) (by decide)) (by decide);rw[By]at this;exact iw this fun _ _ h=>ptv h
theorem zo{A:Option Addr}{c:Nat}{B:Option Addr}{d:Nat}(G:Nat→Option Obj)(hp:PE G tW [.int .i64 1,.int .i64 0,.int .i64 1,.slice A 2 c,.slice B 3 d]):FnD Tryz.prog 35 #[.agg #[.int .i64 1,.int .i64 0,.int .i64 1,.slice A 2 c,.slice B 3 d],.int .i64 0,.int .i64 0] G (fun G' r=>∃ A c B d,r=.tuple #[.agg #[.int .i64 1,.int .i64 (-1),.int .i64 1,.slice A 1 c,.slice B 3 d],.int .i64 0]∧PE G' nu [.int .i64 1,.int .i64 (-1),.int .i64 1,.slice A 1 c,.slice B 3 d]):=by
 have:=sA tW _ 0 0 G hp (ir (f0 _ _) (f0 _ _) (gp _) (by decide)) (by decide) (by decide);rw[zA]at this;exact iw this fun _ _ h=>ptv h
theorem qH{A:Option Addr}{c:Nat}{B:Option Addr}{d:Nat}{cb:List Value}(G:Nat→Option Obj)(hp:PE G nu [.int .i64 1,.int .i64 (-1),.int .i64 1,.slice A 1 c,.slice B 3 d])(hb:BE G exB cb):FnD Tryz.prog 25 #[.agg #[.int .i64 1,.int .i64 (-1),.int .i64 1,.slice A 1 c,.slice B 3 d],.agg cb.toArray] G (fun G' r=>∃ A c B d,r=.tuple #[.agg #[.int .i64 0,.int .i64 0,.int .i64 0,.slice A 0 c,.slice B 0 d],.int .i64 0,.int .i64 180]):=by
 have:=lC nu exB _ _ G hp (ir nB (f0 _ _) (gp _) (by decide)) hb;rw[CR]at this;refine iw this fun G' r ⟨cs,h1,h2⟩=>?_
 obtain⟨A,c',B,d,rfl,-⟩:=h2;exact⟨A,c',B,d,h1⟩
theorem Eu{A:Option Addr}{c:Nat}{B:Option Addr}{d:Nat}(G:Nat→Option Obj)(hp:PE G nu [.int .i64 1,.int .i64 (-1),.int .i64 1,.slice A 1 c,.slice B 3 d]):FnD Tryz.prog 37 #[.agg #[.int .i64 1,.int .i64 (-1),.int .i64 1,.slice A 1 c,.slice B 3 d],.int .i64 2] G (fun G' r=>∃ A c B d,r=.tuple #[.agg #[.int .i64 0,.int .i64 0,.int .i64 0,.slice A 0 c,.slice B 0 d],.int .i64 181]):=by
 have:=nM nu _ 2 G hp (ir nB (f0 _ _) (gp _) (by decide)) (by decide);rw[EF]at this;exact iw this fun _ _ h=>Iw h
theorem FD{A:Option Addr}{c:Nat}{B:Option Addr}{d:Nat}(G:Nat→Option Obj)(hp:PE G nu [.int .i64 1,.int .i64 (-1),.int .i64 1,.slice A 1 c,.slice B 3 d]):FnD Tryz.prog 37 #[.agg #[.int .i64 1,.int .i64 (-1),.int .i64 1,.slice A 1 c,.slice B 3 d],.int .i64 1] G (fun G' r=>∃ A c B d,r=.tuple #[.agg #[.int .i64 2,.int .i64 1,.int .i64 1,.slice A 1 c,.slice B 3 d],.int .i64 0]∧PE G' sS [.int .i64 2,.int .i64 1,.int .i64 1,.slice A 1 c,.slice B 3 d]):=by
 have:=nM nu _ 1 G hp (ir nB (f0 _ _) (gp _) (by decide)) (by decide);rw[D9]at this;exact iw this fun _ _ h=>ptv h
theorem Cx{A:Option Addr}{c:Nat}{B:Option Addr}{d:Nat}(G:Nat→Option Obj)(hp:PE G sS [.int .i64 2,.int .i64 1,.int .i64 1,.slice A 1 c,.slice B 3 d]):FnD Tryz.prog 15 #[.agg #[.int .i64 2,.int .i64 1,.int .i64 1,.slice A 1 c,.slice B 3 d]] G (fun G' r=>∃ A c,r=.tuple #[.agg #[.int .i64 4096,.int .i64 0,.slice A 1 c],.int .i64 0]∧LE G' lS [.int .i64 4096,.int .i64 0,.slice A 1 c]):=by
 have:=rB sS _ G hp (ir nB (f0 _ _) (gp _) (by decide));rw[AY]at this;refine iw this fun G' r ⟨cs,h1,h2⟩=>?_
 have h3:=h2;obtain⟨A,c',rfl,-⟩:=h2;exact⟨A,c',h1,h3⟩
theorem BG{A:Option Addr}{c:Nat}{B:Option Addr}{d:Nat}(G:Nat→Option Obj)(hp:PE G sS [.int .i64 2,.int .i64 1,.int .i64 1,.slice A 1 c,.slice B 3 d]):FnD Tryz.prog 36 #[.agg #[.int .i64 2,.int .i64 1,.int .i64 1,.slice A 1 c,.slice B 3 d],.int .i64 0] G (fun G' r=>∃ A c B d,r=.tuple #[.agg #[.int .i64 2,.int .i64 1,.int .i64 1,.slice A 1 c,.slice B 3 d],.int .i64 0]∧PE G' yL [.int .i64 2,.int .i64 1,.int .i64 1,.slice A 1 c,.slice B 3 d]):=by
 have:=rt sS _ 0 G hp (ir nB (f0 _ _) (gp _) (by decide)) (by decide);rw[Bn]at this;exact iw this fun _ _ h=>ptv h
theorem xL{A:Option Addr}{c:Nat}{B:Option Addr}{d:Nat}(G:Nat→Option Obj)(hp:PE G yL [.int .i64 2,.int .i64 1,.int .i64 1,.slice A 1 c,.slice B 3 d]):FnD Tryz.prog 36 #[.agg #[.int .i64 2,.int .i64 1,.int .i64 1,.slice A 1 c,.slice B 3 d],.int .i64 0] G (fun G' r=>∃ A c B d,r=.tuple #[.agg #[.int .i64 0,.int .i64 0,.int .i64 0,.slice A 0 c,.slice B 0 d],.int .i64 150]):=by
 have:=rt yL _ 0 G hp (ir (f0 _ _) (f0 _ _) (gp _) (by decide)) (by decide);rw[yi]at this;exact iw this fun _ _ h=>Iw h
theorem dn0:decide ((0:Int)≠0)=false:=by decide
theorem dn1:decide (((1:Nat):Int)≠1)=false:=by decide
theorem Fs(e:Env)(G:Nat→Option Obj)(b3:Nat)(A:Option Addr)(c:Nat)(B:Option Addr)(d:Nat)(A4:Option Addr)(c4:Nat)(B4:Option Addr)(d4:Nat)(A5:Option Addr)(c5:Nat)(B5:Option Addr)(d5:Nat)(A6:Option Addr)(c6:Nat)(B6:Option Addr)(d6:Nat)
  (A9:Option Addr) (c9:Nat) (B9:Option Addr) (d9:Nat) (Aa:Option Addr) (ca:Nat) (Ab:Option Addr) (cb:Nat) (Bb:Option Addr) (db:Nat)
  (hpa:PE G qf [.int .i64 1,.int .i64 0,.int .i64 1,.slice A 3 c,.slice B 3 d]) (hpb:PE G ua [.int .i64 1,.int .i64 0,.int .i64 1,.slice A4 3 c4,.slice B4 3 d4]) (hpc:PE G tW [.int .i64 1,.int .i64 0,.int .i64 1,.slice A5 2 c5,.slice B5 3 d5]) (hpx:PE G sS [.int .i64 2,.int .i64 1,.int .i64 1,.slice A9 1 c9,.slice B9 3 d9]) (hll:LE G lS [.int .i64 4096,.int .i64 0,.slice Aa 1 ca]) (hpy:PE G yL [.int .i64 2,.int .i64 1,.int .i64 1,.slice Ab 1 cb,.slice Bb 3 db])
  (e2:e 2=.int .i64 0) (e3:e 3=.pointer (some ⟨b3,0,none⟩)) (e4:e 4=.int .i64 0) (e5:e 5=.int .i64 0) (e7:e 7=.int .i64 0) (e9:e 9=.int .i64 0) (e11:e 11=.int .i64 0) (e14:e 14=.int .i64 180) (e16:e 16=.int .i64 181) (e18:e 18=.int .i64 0) (e20:e 20=.int .i64 0) (e22:e 22=.int .i64 0) (e24:e 24=.int .i64 150) :
  go none Tryz.prog 191 v11.1 v11.2 (fW o11 fun v x=>v=.bool true) [.s (.reg false c11r12),.s (.cond (.t 119) (.seq (.reg false c11r13) .ret) .skip),.s (.seq (.reg false c11r14) .ret)] e
   ⟨G,[.reg 21 [.int .i64 2,.int .i64 1,.int .i64 1,.slice Ab 1 cb,.slice Bb 3 db],.reg 19 [.int .i64 4096,.int .i64 0,.slice Aa 1 ca],.reg 17 [.int .i64 2,.int .i64 1,.int .i64 1,.slice A9 1 c9,.slice B9 3 d9],.reg 10 [.int .i64 1,.int .i64 (-1),.int .i64 1,.slice A6 1 c6,.slice B6 3 d6],.reg 8 [.int .i64 1,.int .i64 0,.int .i64 1,.slice A5 2 c5,.slice B5 3 d5],.reg 6 [.int .i64 1,.int .i64 0,.int .i64 1,.slice A4 3 c4,.slice B4 3 d4],.blk b3 [.int .i64 1,.int .i64 0,.int .i64 1,.slice A 3 c,.slice B 3 d]],[]⟩:=by
 have hna:∀ t:Bool,t=decide ((0:Int)≠0)→t=false:=fun t h=>by rw[h];rfl
 refine dz [2,3,4,5,7,9,11,14,16,18,20,22,24] ?_
 (try simp -implicitDefEqProofs only[oY,oZ,push_cast,Nat.reduceBEq,Nat.reduceAdd,Nat.reduceSub,Nat.reduceMul,Nat.reduceLT,Nat.reduceLeDiff,Nat.reduceEqDiff,reduceIte,Bool.not_true,Bool.not_false,true_and,and_true,Option.map_some,Option.bind_some,Int.toNat_natCast,e2,e3,e4,e5,e7,e9,e11,e14,e16,e18,e20,e22,e24])
 intros;refine gr 84 119 ?_;rw[c11r12.eq_1];refine sI ?_;rw[dn0];refine sI ?_;rw[dn0];refine sI ?_;rw[dn0];refine sI ?_;rw[dn0];refine sI ?_;rw[dn0];refine sI ?_;rw[dn0];refine sI ?_;rw[dn0];refine sI ?_;rw[dn0];refine sI ?_;have dn1:decide ((0:Int)+1≠1)=false:=by decide
 have de:∀ n:Int,decide (n=n)=true:=fun n=>decide_eq_true rfl
 have ha:=lr qf _ G hpa (ir (f0 _ _) (gp _) (gp _) (by decide));rw[Gq]at ha;have hb:=lr ua _ G hpb (ir (f0 _ _) (f0 _ _) (gp _) (by decide));rw[GE]at hb;have hc:=lr tW _ G hpc (ir (f0 _ _) (f0 _ _) (gp _) (by decide));rw[HG]at hc;have hx:=lr sS _ G hpx (ir nB (f0 _ _) (gp _) (by decide));rw[GQ]at hx;have hend:=rI lS _ G hll (nN ox) (by show(1:Nat)≤_;decide);rw[nP]at hend
 have hcy:=jP yL _ G hpy (ir (f0 _ _) (f0 _ _) (gp _) (by decide));rw[Fq]at hcy;have hcn:=jP iz [.int .i64 0,.int .i64 0,.int .i64 0,.slice none 0 0,.slice none 0 0] G ⟨none,0,none,0,rfl,slN,slN,iA,iA,iA⟩ ⟨fun r h=>(by cases h),Nat.zero_le _,Nat.zero_le _⟩;rw[Bj]at hcn;obtain⟨_,_,_,_,hex,hv1,-⟩:=hpx;unfold dY at hex;cases hex;obtain⟨A1,c1,he1,-,-,hA1⟩:=hv1;cases he1;intros;rw[dn1]
 intros;refine gc ?_;refine sI ?_;intros;refine gN ?_;intros;refine gr 120 190 ?_;rw[c11r14.eq_1];refine sI ?_;refine⟨_,kE (us:=[.int .i64 1,.int .i64 0,.int .i64 1,.slice A 3 c,.slice B 3 d]) (.tail _ (.tail _ (.tail _ (.tail _ (.tail _ (.tail _ (.head _))))))) rfl (fun j u h=>by rw[Nat.zero_add];exact h),?_⟩;refine sI ?_;refine(ha _ _).mono ?_;rintro _ _ ⟨rfl,rfl⟩;refine sI ?_
 refine(hb _ _).mono ?_;rintro _ _ ⟨rfl,rfl⟩;refine sI ?_;refine(hc _ _).mono ?_;rintro _ _ ⟨rfl,rfl⟩;refine sI ?_;refine⟨by decide,(hA1.x_l1 (k:=0) (x:=1) (j:=0) rfl rfl rfl ?_).2⟩;rintro a1 ha1 u1 ⟨hu,-⟩;cases hu;refine sI ?_;refine(hx _ _).mono ?_;rintro _ _ ⟨rfl,rfl⟩;refine sI ?_;refine(hend _ _).mono ?_;rintro _ _ ⟨rfl,rfl⟩;refine sI ?_
 refine(hcy _ _).mono ?_;rintro _ _ ⟨rfl,rfl⟩;refine sI ?_;refine(hcn _ _).mono ?_;rintro _ _ ⟨rfl,rfl⟩;refine sI ?_;intros;intros;refine rV ?_;simp only[push_cast,Nat.reduceBEq]
theorem Gr(G:Nat→Option Obj):FnS Tryz.prog 11 #[] G (.bool true):=by
 refine F11.fnS (by simp) (dF ?_);unfold c11;intros;refine gr 0 0 ?_;refine sJ c11r0.eq_1 ?_;intros;try refine dv ?_
 intros;refine gr 25 30 ?_;refine sJ c11r1.eq_1 ?_;intro b hb;refine sI ?_;have h012:Cells IE 1 [0,1,2] [.int .i64 0,.int .i64 1,.int .i64 2]:=.cons (cs:=[_]) ⟨rfl,iA⟩ rfl (.cons (cs:=[_]) ⟨rfl,(by decide:I64 1)⟩ rfl (.one ⟨rfl,(by decide:I64 2)⟩ rfl));refine pX F13.enters (dQ [] _ (by decide) h012) ?_;rintro h' ⟨G1,rfl,hg1,hv1⟩;refine(D5 _ G1 hv1 _ _).mono ?_
 rintro r h' ⟨G2,rfl,hg2,A,c,B,d,rfl,hp0⟩;refine sI ?_;intros;try refine dv ?_
 refine eA (fun e h=>∃ (G3:Nat→Option Obj) (b3:Nat) (A:Option Addr) (c:Nat) (B:Option Addr) (d:Nat) (Lh:List Kx.Item),PE G3 qf [.int .i64 1,.int .i64 0,.int .i64 1,.slice A 3 c,.slice B 3 d]∧e 2=.int .i64 0∧e 3=.pointer (some ⟨b3,0,none⟩)∧e 4=.int .i64 0∧e 5=.int .i64 0∧h=⟨G3,Lh,[]⟩∧([.blk b3 [.int .i64 1,.int .i64 0,.int .i64 1,.slice A 3 c,.slice B 3 d]]:List Kx.Item).Sublist Lh) ?_ ?_
 ·(intros;try refine du ?_);refine zS _ (List.Sublist.refl _) (by decide) ?_;refine sJ c11r2.eq_1 ?_
  refine⟨?_,?_⟩
  ·refine(mj G2 _ _).mono ?_;rintro r h' ⟨G3,rfl,hg3,Bb,db,rfl,hbe⟩;refine⟨lM hg3,?_⟩;refine sI ?_;refine⟨?_,?_⟩
   ·refine(uN G3 (hp0.le hg3) hbe _ _).mono ?_;rintro r h' ⟨G4,rfl,hg4,A',c',B',d',rfl,hpa⟩;refine sI ?_;refine⟨lM (hg3.trans hg4),?_⟩;refine sI ?_;intro b3 hb3;refine⟨dK (hg3.trans hg4) (.cons _ (List.Sublist.refl _)),?_⟩;refine sI ?_;refine dI [] _ rfl (by simp) ⟨rfl,rfl⟩ ?_;refine sI ?_;refine⟨dK (hg3.trans hg4) (.cons _ (List.Sublist.refl _)),?_⟩;refine sI ?_
    exact eh ⟨G4,b3,A',c',B',d',_,hpa,eE,eE,eE,eE,rfl,.cons_cons _ (List.nil_sublist _)⟩
   ·intro b3 hb3;refine⟨dK hg3 (.cons _ (List.Sublist.refl _)),?_⟩;refine sI ?_;refine(uN G3 (hp0.le hg3) hbe _ _).mono ?_;rintro r h' ⟨G4,rfl,hg4,A',c',B',d',rfl,hpa⟩;refine sI ?_;refine⟨dK (hg3.trans hg4) (.cons _ (List.Sublist.refl _)),?_⟩;refine sI ?_;refine dI [] _ rfl (by simp) ⟨rfl,rfl⟩ ?_;refine sI ?_;refine⟨dK (hg3.trans hg4) (.cons _ (List.Sublist.refl _)),?_⟩;refine sI ?_
    exact eh ⟨G4,b3,A',c',B',d',_,hpa,eE,eE,eE,eE,rfl,.cons_cons _ (List.nil_sublist _)⟩
  ·intro b3 hb3;refine⟨dK (fun _ _ h=>h) (.cons _ (List.Sublist.refl _)),?_⟩;refine sI ?_;refine(mj G2 _ _).mono ?_;rintro r h' ⟨G3,rfl,hg3,Bb,db,rfl,hbe⟩;refine⟨dK hg3 (.cons _ (List.Sublist.refl _)),?_⟩;refine sI ?_;refine(uN G3 (hp0.le hg3) hbe _ _).mono ?_;rintro r h' ⟨G4,rfl,hg4,A',c',B',d',rfl,hpa⟩;refine sI ?_;refine⟨dK (hg3.trans hg4) (.cons _ (List.Sublist.refl _)),?_⟩;refine sI ?_
   refine dI [] _ rfl (by simp) ⟨rfl,rfl⟩ ?_;refine sI ?_;refine⟨dK (hg3.trans hg4) (.cons _ (List.Sublist.refl _)),?_⟩;refine sI ?_;exact eh ⟨G4,b3,A',c',B',d',_,hpa,eE,eE,eE,eE,rfl,.cons_cons _ (List.nil_sublist _)⟩
 rintro e h ⟨G3,b3,A,c,B,d,Lh,hpa,e2,e3,e4,e5,rfl,hsub⟩;refine dz [2,3,4,5] ?_;refine sJ4 @e2 @e3 @e4 @e5 ?_;intros;refine dx (dD hsub) ?_;clear hsub hp0;intros;try refine dv ?_
 intros;refine gr 37 42 ?_;refine sJ c11r3.eq_1 ?_;refine⟨_,kE (us:=[.int .i64 1,.int .i64 0,.int .i64 1,.slice A 3 c,.slice B 3 d]) (.head _) rfl (fun j u h=>by rw[Nat.zero_add];exact h),?_⟩;refine sI ?_;refine(Da G3 hpa _ _).mono ?_;rintro r h' ⟨G4,rfl,hg4,A4,c4,B4,d4,rfl,hpb⟩;refine sI ?_;intros;try refine dv ?_
 intros;refine gr 42 47 ?_;refine sJ c11r4.eq_1 ?_;refine(AK G4 hpb _ _).mono ?_;rintro r h' ⟨G5,rfl,hg5,A5,c5,B5,d5,rfl,hpc⟩;refine sI ?_;intros;try refine dv ?_
 intros;refine gr 47 52 ?_;refine sJ c11r5.eq_1 ?_;refine(zo G5 hpc _ _).mono ?_;rintro r h' ⟨G6,rfl,hg6,A6,c6,B6,d6,rfl,hpd⟩;refine sI ?_;intros;try refine dv ?_
 refine eA (fun e h=>∃ (G7:Nat→Option Obj) (Lh:List Kx.Item),Gle G6 G7∧e 2=.int .i64 0∧e 3=.pointer (some ⟨b3,0,none⟩)∧e 4=.int .i64 0∧e 5=.int .i64 0∧e 7=.int .i64 0∧e 9=.int .i64 0∧e 11=.int .i64 0∧e 14=.int .i64 180∧h=⟨G7,Lh,[]⟩∧([.reg 10 [.int .i64 1,.int .i64 (-1),.int .i64 1,.slice A6 1 c6,.slice B6 3 d6],.reg 8 [.int .i64 1,.int .i64 0,.int .i64 1,.slice A5 2 c5,.slice B5 3 d5],.reg 6 [.int .i64 1,.int .i64 0,.int .i64 1,.slice A4 3 c4,.slice B4 3 d4],.blk b3 [.int .i64 1,.int .i64 0,.int .i64 1,.slice A 3 c,.slice B 3 d]]:List Kx.Item).Sublist Lh) ?_ ?_
 ·(intros;try refine du ?_);refine zS _ (List.Sublist.refl _) (by decide) ?_;refine sJ c11r6.eq_1 ?_
  refine⟨?_,?_⟩
  ·refine(mj G6 _ _).mono ?_;rintro r h' ⟨G7,rfl,hg7,Bb,db,rfl,hbe⟩;refine⟨lM hg7,?_⟩;refine sI ?_;refine⟨?_,?_⟩
   ·refine(qH G7 (hpd.le hg7) hbe _ _).mono ?_;rintro r h' ⟨G8,rfl,hg8,A',c',B',d',rfl⟩;refine sI ?_;refine⟨lM (hg7.trans hg8),?_⟩;refine sI ?_;intro b12 hb12;refine⟨dK (hg7.trans hg8) (.cons _ (List.Sublist.refl _)),?_⟩;refine sI ?_;refine dI [] _ rfl (by simp) ⟨rfl,rfl⟩ ?_;refine sI ?_;refine⟨dK (hg7.trans hg8) (.cons _ (List.Sublist.refl _)),?_⟩;refine sI ?_
    exact eh ⟨G8,_,hg7.trans hg8,eE,eE,eE,eE,eE,eE,eE,eE,rfl,.cons _ (List.Sublist.refl _)⟩
   ·intro b12 hb12;refine⟨dK hg7 (.cons _ (List.Sublist.refl _)),?_⟩;refine sI ?_;refine(qH G7 (hpd.le hg7) hbe _ _).mono ?_;rintro r h' ⟨G8,rfl,hg8,A',c',B',d',rfl⟩;refine sI ?_;refine⟨dK (hg7.trans hg8) (.cons _ (List.Sublist.refl _)),?_⟩;refine sI ?_;refine dI [] _ rfl (by simp) ⟨rfl,rfl⟩ ?_;refine sI ?_;refine⟨dK (hg7.trans hg8) (.cons _ (List.Sublist.refl _)),?_⟩;refine sI ?_
    exact eh ⟨G8,_,hg7.trans hg8,eE,eE,eE,eE,eE,eE,eE,eE,rfl,.cons _ (List.Sublist.refl _)⟩
  ·intro b12 hb12;refine⟨dK (fun _ _ h=>h) (.cons _ (List.Sublist.refl _)),?_⟩;refine sI ?_;refine(mj G6 _ _).mono ?_;rintro r h' ⟨G7,rfl,hg7,Bb,db,rfl,hbe⟩;refine⟨dK hg7 (.cons _ (List.Sublist.refl _)),?_⟩;refine sI ?_;refine(qH G7 (hpd.le hg7) hbe _ _).mono ?_;rintro r h' ⟨G8,rfl,hg8,A',c',B',d',rfl⟩;refine sI ?_;refine⟨dK (hg7.trans hg8) (.cons _ (List.Sublist.refl _)),?_⟩;refine sI ?_
   refine dI [] _ rfl (by simp) ⟨rfl,rfl⟩ ?_;refine sI ?_;refine⟨dK (hg7.trans hg8) (.cons _ (List.Sublist.refl _)),?_⟩;refine sI ?_;exact eh ⟨G8,_,hg7.trans hg8,eE,eE,eE,eE,eE,eE,eE,eE,rfl,.cons _ (List.Sublist.refl _)⟩
 rintro e h ⟨G7,Lh,hg7,e2,e3,e4,e5,e7,e9,e11,e14,rfl,hsub⟩;refine dz [2,3,4,5,7,9,11,14] ?_
 (try simp -implicitDefEqProofs only[oY,oZ,push_cast,Nat.reduceBEq,Nat.reduceAdd,Nat.reduceSub,Nat.reduceMul,Nat.reduceLT,Nat.reduceLeDiff,Nat.reduceEqDiff,reduceIte,Bool.not_true,Bool.not_false,true_and,and_true,Option.map_some,Option.bind_some,Int.toNat_natCast,e2,e3,e4,e5,e7,e9,e11,e14])
 intros;refine dx (dD hsub) ?_;clear hsub;have hpd:=hpd.le hg7;intros;try refine dv ?_
 intros;refine gr 59 64 ?_;refine sJ c11r7.eq_1 ?_;refine(Eu G7 hpd _ _).mono ?_;rintro r h' ⟨G8,rfl,hg8,A8,c8,B8,d8,rfl⟩;refine sI ?_;intros;try refine dv ?_
 intros;refine gr 64 69 ?_;refine sJ c11r8.eq_1 ?_;refine(FD G8 (hpd.le hg8) _ _).mono ?_;rintro r h' ⟨G9,rfl,hg9,A9,c9,B9,d9,rfl,hpx⟩;refine sI ?_;intros;try refine dv ?_
 intros;refine gr 69 74 ?_;refine sJ c11r9.eq_1 ?_;refine(Cx G9 hpx _ _).mono ?_;rintro r h' ⟨Ga,rfl,hga,Aa,ca,rfl,hll⟩;refine sI ?_;intros;try refine dv ?_
 intros;refine gr 74 79 ?_;refine sJ c11r10.eq_1 ?_;refine(BG Ga (hpx.le hga) _ _).mono ?_;rintro r h' ⟨Gb,rfl,hgb,Ab,cb,Bb,db,rfl,hpy⟩;refine sI ?_;intros;try refine dv ?_
 intros;refine gr 79 84 ?_;refine sJ c11r11.eq_1 ?_;refine(xL Gb hpy _ _).mono ?_;rintro r h' ⟨Gc,rfl,hgc,Ac,cc,Bc,dc,rfl⟩;refine sI ?_;intros;try refine dv ?_
 intros;try refine dv ?_
 have h7c:Gle G7 Gc:=hg8.trans (hg9.trans (hga.trans (hgb.trans hgc)));have h5c:Gle G5 Gc:=hg6.trans (hg7.trans h7c);refine dx (dD (.cons _ (.cons_cons _ (.cons_cons _ (.cons_cons _ (.cons _ (List.Sublist.refl _))))))) ?_
 exact Fs _ Gc b3 A c B d A4 c4 B4 d4 A5 c5 B5 d5 A6 c6 B6 d6 A9 c9 B9 d9 Aa ca Ab cb Bb db (hpa.le (hg4.trans (hg5.trans h5c))) (hpb.le (hg5.trans h5c)) (hpc.le h5c) (hpx.le (hga.trans (hgb.trans hgc))) (hll.le (hgb.trans hgc)) (hpy.le hgc) (eE) (eE) (eE) (eE) (eE) (eE) (eE) (eE) (eE) (eE) (eE) (eE) (eE)
theorem F12:Fun Tryz.prog 12 43 v12 c12 o12:=Fun.mkA Tryz.func12 Tryz.ntmps12
theorem Jj{P:Program}{h:H}{d n dd:Nat}{l:List SI}{G:Nat→Option Obj}{B:Option Addr}{xs:List Rp}{K:Env→H→Prop}{e:Addr→Env}{j N:Int}{k:Nat}{r:Rp}(hv:SlV G (RE G) 7 (.slice B n dd) xs)(hx:xs[k]?=some r)(hj:j=k)(hN:0≤j∧j < N)(hG:h.G=G)
  (hk:∀ a,B=some a→∀ A1 c1,LE G r.log (ek r.log A1 c1)→kR P l d (e a) K (.agg (ek r.log A1 c1).toArray) h):(0≤j∧j < N)∧∃ a,B=some a∧ldX P (.pointer (some ((a.add (j.toNat * 7)).add 2))) (some 3) d l (e a) h K:=by
 obtain⟨G',L,D⟩:=h;dsimp only at hG;subst hG;obtain⟨a,A1,c1,B1,d1,ha,hre,hl3,-⟩:=si hv hx;obtain⟨A9,c9,B9,d9,he9,hs9,-,hlim,-⟩:=hre;unfold fH at he9;cases he9;subst hj;exact⟨hN,a,ha,_,by simpa using hl3 L D,hk a ha A1 c1 ⟨A1,c1,rfl,hs9,hlim⟩⟩
def Dn(r:Rp):Prop:=r.log.segs.length≤12∧(∀ s∈r.log.segs,s.bytes.length≤5000)∧r.eps.length≤60
def z8(p:Pt):Prop:=p.reps.length≤8∧p.isr.length≤30∧∀ r∈p.reps,Dn r
theorem z8.sm{p:Pt}(h:z8 p):smP p:=⟨fun r hr=>⟨fun s hs=>by have:=(h.2.2 r hr).2.1 s hs;omega,by have:=(h.2.2 r hr).1;omega,by have:=(h.2.2 r hr).2.2;omega⟩,by have:=h.1;omega,by have:=h.2.1;omega⟩
theorem AD(p:Pt)(cs:List Value)(G:Nat→Option Obj)(hp:PE G p cs):FnE Tryz.prog 12 #[.agg cs.toArray] G (fun r=>∃ b,r=.bool b∧(b=true→z8 p)):=by
 obtain⟨A,c,B,d,rfl,⟨A0,c0,he,hc,hm,hA⟩,hv2,hI⟩:=hp;cases he;have hv:=hv2;obtain⟨B0,d0,he,hd,hn,hB⟩:=hv2;cases he;refine F12.fnE (by simp) (dF ?_);unfold c12 dY;have hd1:decide ((p.reps.length:Int)≤8)=decide (p.reps.length≤8):=decide_eq_decide.2 (by omega);have hd2:decide ((p.isr.length:Int)≤30)=decide (p.isr.length≤30):=decide_eq_decide.2 (by omega)
 have hrest:∀ (fr:List Td) (e:Env),(p.reps.length≤9→∀ r∈p.reps,Dn r)→go none Tryz.prog 43 v12.1 v12.2 (fW o12 fun r _=>∃ b,r=.bool b∧(b=true→z8 p)) (Td.s ((SC.reg false c12r6).seq .ret) :: fr) e ⟨G,[.reg 1 [.int .i64 p.epoch,.int .i64 p.leader,.int .i64 p.least,.slice A p.isr.length c,.slice B p.reps.length d]],[]⟩:=fun fr e hall=>by
  intros;refine gr 34 43 ?_;refine sJ2 c12r6.eq_1 @hd1 ?_;refine gd (fun k1=>?_) (fun k1=>?_)
  ·have k1:=of_decide_eq_true k1;refine sJ @hd2 ?_;intros;refine rV ?_;simp only[push_cast,Nat.reduceBEq];exact⟨_,rfl,fun h=>by have h:=of_decide_eq_true h;exact⟨k1,h,hall (by omega)⟩⟩
  ·refine sI ?_;intros;refine rV ?_;simp only[push_cast,Nat.reduceBEq];exact⟨false,rfl,fun h=>by cases h⟩
 intros;refine gr 0 0 ?_;refine sJ c12r0.eq_1 ?_;intros;refine gr 0 0 ?_;refine sJ c12r1.eq_1 ?_
 (intros;try refine du ?_)
 refine dW (fun e h=>∃ k:Nat,(k≤p.reps.length∧∀ r∈p.reps.take k,Dn r)∧e 3=.int .i64 k∧h=⟨G,[.reg 1 [.int .i64 p.epoch,.int .i64 p.leader,.int .i64 p.least,.slice A p.isr.length c,.slice B p.reps.length d]],[]⟩) (fun e h=>p.reps.length - iv (e 3)) ?_ ?_
 ·exact⟨0,⟨Nat.zero_le _,by simp⟩,eE,rfl⟩
 rintro e h ⟨k,⟨hk,hall⟩,e3,rfl⟩;refine dz [3] ?_;refine sJ @e3 ?_;intros;refine gr 4 12 ?_;refine sJ c12r2.eq_1 ?_;refine gd (fun k1=>?_) (fun k1=>?_)
 ·have k1:k < p.reps.length:=by have:=of_decide_eq_true k1;omega
  refine sI ?_;intros;refine gc ?_;refine sI ?_;refine gb (fun k2=>?_) (fun k2=>?_)
  ·have hw:=fz k d (by omega) hn;obtain⟨s,hs⟩:∃ s,p.reps[k]?=some s:=⟨p.reps[k],List.getElem?_eq_getElem (by omega)⟩
   have hno:∀ (fr:List Td) (e:Env),go none Tryz.prog 43 v12.1 v12.2 (fW o12 fun r _=>∃ b,r=.bool b∧(b=true→z8 p)) (Td.s ((SC.reg false c12r4).seq .ret) :: fr) e ⟨G,[.reg 1 [.int .i64 p.epoch,.int .i64 p.leader,.int .i64 p.least,.slice A p.isr.length c,.slice B p.reps.length d]],[]⟩:=fun fr e=>by
    intros;refine gr 0 0 ?_;refine sJ c12r4.eq_1 ?_;intros;refine rV ?_;simp only[push_cast,Nat.reduceBEq];exact⟨false,rfl,fun h=>by cases h⟩
   intros;refine gN ?_;intros;refine gr 16 32 ?_;refine sJ c12r3.eq_1 ?_;refine Jj hv hs rfl (by omega) rfl ?_;rintro a ha A1 c1 hle;have hfew:=Bk s.log _ G hle;refine sI ?_;unfold ek at hfew ⊢;refine(hfew _ _).mono ?_;rintro r h ⟨⟨b,rfl,hb⟩,rfl⟩;cases b with
   | false =>
    refine sI ?_;intros;refine gc ?_;refine sI ?_;exact hno _ _
   | true =>
    have hb:=hb rfl;refine sI ?_;refine Is (k:=k) (Pu:=fun u=>∃ B d,u=.slice B s.eps.length d) hB hs rfl rfl (fun cs h=>by obtain⟨_,_,B,d,rfl,-⟩:=h;exact⟨_,rfl,B,d,rfl⟩) ?_;rintro a2 ha2 u ⟨B2,d2,rfl⟩;refine sI ?_;intros;refine gc ?_;refine sI ?_;refine gb (fun k3=>?_) (fun k3=>?_)
    ·exact hno _ _
    ·have k3:=of_decide_eq_false k3;intros;refine gN ?_;intros;refine gr 13 15 ?_;refine sJ2 c12r5.eq_1 @hw ?_
     (intros;try refine du ?_)
     refine eh ⟨⟨k+1,⟨by omega,fun z hz=>?_⟩,eE,rfl⟩,?_⟩
     ·rw[ew hs]at hz;rcases List.mem_append.1 hz with h | h
      ·exact hall z h
      ·simp at h;subst h;exact⟨hb.1,hb.2,by omega⟩
     ·refine sI ?_;omega
  ·have k2:=of_decide_eq_false k2;refine dT ?_;refine sI ?_;intros;refine gN ?_;exact hrest _ _ fun h=>by omega
 ·have k1:k=p.reps.length:=by have:=of_decide_eq_false k1;omega
  subst k1;rw[List.take_length]at hall;refine sI ?_;intros;refine gc ?_;refine sI ?_;refine dT ?_;refine sI ?_;intros;refine gN ?_;exact hrest _ _ fun _=>hall
theorem lG{p:Pt}{i:Nat}{r:Rp}(h:p.reps[i]?=some r):∃ m,(dS p).reps[i]?=some { r with high:=m }:=by
 unfold dS;split
 ·exact⟨r.high,h⟩
 ·split
  ·exact⟨r.high,h⟩
  ·rename_i k hk;split
   ·exact⟨r.high,h⟩
   ·rename_i x hx;by_cases hik:k=i
    ·subst hik;rw[h]at hx;cases hx;exact⟨_,List.getElem?_set_self (List.getElem?_eq_some_iff.1 h).1⟩
    ·refine⟨r.high,?_⟩;show(p.reps.set k _)[i]?=_;rw[List.getElem?_set_ne hik,h]
theorem xl{p:Pt}(h:okP p){k i:Nat}{r s:Rp}(hr:p.reps[k]?=some r)(hs:p.reps[i]?=some s)(he:r.id=s.id):k=i:=by
 have h1:=mX h.1.2.1.2.2 hr;have h2:=mX h.1.2.1.2.2 hs;rw[he,h2]at h1;exact(Option.some.inj h1).symm
theorem lJ{p:Pt}{k:Nat}{r y:Rp}(h:okP p)(hr:p.reps[k]?=some r)(hid:y.id=r.id)(hy:okR y)(hl:r.id=p.leader→y.up=true):okP (fQ p k y):=by
 obtain⟨⟨h1,h2,h3,h4,h5⟩,h6,h7⟩:=h;have hkl:=(List.getElem?_eq_some_iff.1 hr).1;have e1:fM (p.reps.set k y)=fM p.reps:=il hr hid;have e2:(p.reps.set k y).length=p.reps.length:=List.length_set ..
 refine⟨⟨h1,by show fm (fM (p.reps.set k y));rw[e1];exact h2,by show(p.reps.set k y).length≤5;rw[e2];exact h3,by show 1≤p.least∧p.least≤((p.reps.set k y).length:Int);rw[e2];exact h4,fun z hz=>?_⟩,⟨h6.1,fun n hn=>by show n∈fM (p.reps.set k y);rw[e1];exact h6.2 n hn⟩,?_⟩
 ·rcases List.mem_or_eq_of_mem_set hz with hz | rfl
  ·exact h5 z hz
  ·exact hy
 ·rcases h7 with h7 | ⟨⟨z,hz,hz1,hz2⟩,h8⟩
  ·exact .inl h7
  refine .inr ⟨?_,h8⟩;obtain⟨i,hi⟩:=List.mem_iff_getElem?.1 hz;by_cases hik:k=i
  ·subst hik;rw[hr]at hi;cases hi;exact⟨y,List.mem_set hkl y,by rw[hid];exact hz1,hl hz1⟩
  ·refine⟨z,List.mem_of_getElem? (i:=i) ?_,hz1,hz2⟩;show(p.reps.set k y)[i]?=some z;rw[List.getElem?_set_ne hik,hi]
theorem mM{p:Pt}(h:okP p):okP (dS p):=by
 by_cases h0:p.leader < 0
 ·unfold dS;rw[if_pos h0];exact h
 obtain⟨k,r,hk,hr,hid⟩:=ku h h0;have hup:r.up=true:=by
  rcases h.2.2 with h7 | ⟨⟨z,hz,hz1,hz2⟩,h8⟩
  ·omega
  obtain⟨i,hi⟩:=List.mem_iff_getElem?.1 hz;obtain rfl:=xl h hr hi (by rw[hid,hz1]);rw[hr]at hi;cases hi;exact hz2
 have hok:=h.1.2.2.2.2 r (List.mem_of_getElem? hr);have hle:=mu p.reps k r p.isr (eD r.log);have hei:=jY r.log;rw[kh h0 hk hr];obtain⟨⟨g1,g2,g3,g4⟩,g5,g6⟩:=hok;have g6:=g6 hup;refine lJ h hr rfl ⟨⟨g1,g2,?_,?_⟩,g5,fun _=>?_⟩ fun _=>hup
 all_goals dsimp only;omega
theorem pW{l m:List Int}(h:fm l)(hs:m.Sublist l)(hm:m≠[]):fm m:=⟨hm,fun n hn=>h.2.1 n (hs.subset hn),h.2.2.sublist hs⟩
theorem yQ{l:Lg}{n:Int}(h:fj l=0)(h0:0≤n):fj (ia (lz l n)).1=0∧(∃ t,iC l=iC (ia (lz l n)).1++t)∧(n=0→(ia (lz l n)).1=l):=by
 have hne:l.segs≠[]:=fun h1=>by
  have h2:=h;unfold fj at h2;split at h2
  ·rename_i h3;simp[h1]at h3
  ·cases h2
 obtain⟨s,e1,-⟩:=gE hne;have h3:sQ l (l.segs.length - 1)=s:=by rw[sQ,List.getD_eq_getElem?_getD,e1];rfl
 obtain⟨C,hC⟩:∃ C,C=s.bytes.length - (min n s.bytes.length).toNat:=⟨_,rfl⟩;have ht:lz l n=⟨l.limit,l.start,l.segs.set (l.segs.length - 1) ⟨s.base,s.bytes.take C⟩⟩:=by
  unfold lz;rw[h3,mF,hC]
 obtain⟨j,hurt⟩:=wm (c:=C) h e1 (by omega);rw[← ht]at hurt;obtain⟨r1,r2,t,r3⟩:=hurt.rec_;have e2:(ia (lz l n)).1=⟨l.limit,l.start,l.segs.take (l.segs.length - 1)++[(lj ⟨s.base,s.bytes.take C⟩).1]⟩:=by rw[r1]
 refine⟨by rw[e2];exact r2,⟨t,?_⟩,fun hn=>?_⟩
 ·rw[e2,iC,if_pos h,iC,if_pos r2,r3]
 ·have e3:C=s.bytes.length:=by rw[hC,hn];omega
  have e4:lz l n=l:=by
   rw[ht,e3,List.take_length];show(⟨l.limit,l.start,l.segs.set (l.segs.length - 1) s⟩:Lg)=l;rw[AA s e1,← l8 e1]
  rw[e4,rx h]
theorem yE{r:Rp}{t:Int}(h:okR r)(hup:r.up=true)(h0:0≤t):okR (ix r t):=by
 obtain⟨g1,g2,g3⟩:=h;have g2:fj r.log=0:=by unfold nZ at g2;rwa [if_pos hup]at g2
 exact⟨g1,(yQ g2 h0).1,fun h=>by cases h⟩
theorem uU{p:Pt}{n t:Int}{k:Nat}{r:Rp}(h:okP p)(hr:p.reps[k]?=some r)(hid:r.id=n)(hup:r.up=true)(h0:0≤t):okP (fQ (eY (eu p n) n) k (ix r t)):=by
 have hn0:0≤n:=by
  have:=(h.1.2.2.2.2 r (List.mem_of_getElem? hr)).1.1;rw[hid]at this;simp[idI]at this;exact this.1
 have h1:okP (eu p n):=by
  obtain⟨a,b,c⟩:=h;refine⟨a,b,?_⟩;show(if p.leader=n then -1 else p.leader)=-1∨(∃ r∈p.reps,r.id=(if p.leader=n then -1 else p.leader)∧r.up=true)∧(if p.leader=n then -1 else p.leader)∈p.isr;split
  ·exact .inl rfl
  ·exact c
 have hl1:(eu p n).leader≠n:=by
  show(if p.leader=n then -1 else p.leader)≠n;split
  ·omega
  ·assumption
 have hr1:(eu p n).reps[k]?=some r:=hr;generalize eu p n=p1 at *;have h2:okP (eY p1 n)∧(eY p1 n).leader≠n∧(eY p1 n).reps[k]?=some r:=by
  unfold eY;split
  ·rename_i hlen;refine⟨⟨h1.1,?_,?_⟩,hl1,hr1⟩
   ·refine⟨pW h1.2.1.1 (List.filter_sublist ..) fun he=>?_,fun m hm=>h1.2.1.2 m (List.mem_filter.1 hm).1⟩;have hp:=h1.2.1.1.2.2;have hall:∀ m∈p1.isr,m=n:=fun m hm=>by
     have:=List.filter_eq_nil_iff.1 he m hm;simpa using this
    match hh:p1.isr,hlen,hp with
    | a :: b :: l,_,hp =>
     rw[hh]at hall;have e1:=hall a (.head _);have e2:=hall b (.tail _ (.head _));have:=(List.pairwise_cons.1 hp).1 b (.head _);omega
   ·rcases h1.2.2 with c | ⟨c,d⟩
    ·exact .inl c
    ·exact .inr ⟨c,List.mem_filter.2 ⟨d,(show decide (p1.leader≠n)=true from decide_eq_true hl1)⟩⟩
  ·exact⟨h1,hl1,hr1⟩
 refine lJ h2.1 h2.2.2 rfl (yE (h.1.2.2.2.2 r (List.mem_of_getElem? hr)) hup h0) fun he=>?_
 rw[hid]at he;exact absurd he.symm h2.2.1
theorem wq{r:Rp}{t:Int}(h:Dn r):Dn (ix r t):=by
 obtain⟨h1,h2,h3⟩:=h;refine⟨by show(List.set ..).length≤12;rw[List.length_set];exact h1,fun s hs=>?_,h3⟩;rcases List.mem_or_eq_of_mem_set hs with hs | rfl
 ·exact h2 s hs
 ·have h4:=wD (sQ r.log (r.log.segs.length - 1)) t;by_cases h5:r.log.segs=[]
  ·rw[sQ,h5]at h4 ⊢;simp[iU]at h4 ⊢;simp[mF,iU]
  ·obtain⟨s,e1,-⟩:=gE h5;have h3:sQ r.log (r.log.segs.length - 1)=s:=by rw[sQ,List.getD_eq_getElem?_getD,e1];rfl
   rw[h3]at h4 ⊢;have:=h2 s (List.mem_of_getElem? e1);omega
def GB(a b:Ep):Prop:=a.1 < b.1∧a.2 < b.2
theorem lF(l:List Ep):gQ l=0↔(∀ x∈l,okE x=true)∧l.Pairwise GB:=by
 constructor
 ·intro h;refine⟨fun x hx=>?_,?_⟩
  ·obtain⟨i,hi⟩:=List.getElem?_of_mem hx;exact vm h hi
  ·rw[List.pairwise_iff_getElem];intro i j hi hj hij;exact jt h hij (List.getElem?_eq_getElem hi) (List.getElem?_eq_getElem hj)
 ·rintro⟨h1,h2⟩;rw[gQ,if_pos];intro i x _ hx;refine⟨h1 x (List.mem_of_getElem? hx),fun p h0 hp=>?_⟩;rw[List.pairwise_iff_getElem]at h2;have hi:=List.getElem?_eq_some_iff.1 hx;have hj:=List.getElem?_eq_some_iff.1 hp;have:=h2 (i - 1) i hj.1 hi.1 (by omega);rw[hi.2,hj.2]at this;exact this
theorem C5(l:List Ep)(off:Int):gQ (nf l off)=0:=by
 rw[lF];by_cases h:gQ l=0
 ·have h':=(lF l).1 h;exact⟨fun x hx=>h'.1 x (List.mem_filter.1 hx).1,h'.2.sublist List.filter_sublist⟩
 ·have:nf l off=[]:=by
   unfold nf;rw[List.filter_eq_nil_iff];intro x _;simp[h]
  rw[this];exact⟨fun x hx=>by simp at hx,.nil⟩
theorem AW{l:List Ep}{p:Ep}(hp:l[l.length - 1]?=some p):∃ l',l=l'++[p]:=by
 have hl:=(List.getElem?_eq_some_iff.1 hp).1;have hne:l≠[]:=fun e=>by subst e;simp at hl
 refine⟨l.dropLast,?_⟩;have:=List.dropLast_concat_getLast hne;rw[List.getLast_eq_getElem]at this;rw[(List.getElem?_eq_some_iff.1 hp).2]at this;exact this.symm
theorem AT{l:List Ep}{n s:Int}(h:(iI l n s).2=0):gQ (iI l n s).1=0∧∃ q,(iI l n s).1[(iI l n s).1.length - 1]?=some q∧q.1=n∧(s < q.2→l[l.length - 1]?=some q):=by
 by_cases h1:gQ l≠0∨¬ okE (n,s)=true
 ·have e:iI l n s=([],1):=by rw[iI,if_pos h1]
  rw[e]at h;cases h
 ·have h2:gQ l=0∧okE (n,s)=true:=⟨Classical.not_not.1 fun h=>h1 (.inl h),Classical.not_not.1 fun h=>h1 (.inr h)⟩;have e:=rH h2.1 h2.2;cases hp:l[l.length - 1]? with
  | none =>
   rw[hp]at e;rw[e];refine⟨?_,(n,s),rfl,rfl,fun h=>?_⟩
   ·rw[lF];exact⟨fun x hx=>by simp at hx;subst hx;exact h2.2,by simp⟩
   ·dsimp only at h;omega
  | some p =>
   rw[hp]at e;dsimp only at e;obtain⟨l',rfl⟩:=AW hp;have hpw:=(lF _).1 h2.1;have hpa:=List.pairwise_append.1 hpw.2;split at e
   ·rw[e]at h;cases h
   ·split at e
    ·rename_i h3 h4;rw[e];exact⟨h2.1,p,hp,h4.symm,fun _=>rfl⟩
    ·split at e
     ·rw[e]at h;cases h
     ·rename_i h3 h4 h5;split at e
      ·rename_i h6;have hset:(l'++[p]).set ((l'++[p]).length - 1) (n,s)=l'++[(n,s)]:=by
        rw[List.length_append,List.length_singleton,Nat.add_sub_cancel,List.set_append_right _ _ (Nat.le_refl _),Nat.sub_self];rfl
       rw[hset]at e;rw[e];refine⟨?_,(n,s),by simp,rfl,fun h=>by dsimp only at h;omega⟩;rw[lF];refine⟨fun x hx=>?_,?_⟩
       ·rcases List.mem_append.1 hx with hx | hx
        ·exact hpw.1 x (List.mem_append_left _ hx)
        ·simp at hx;subst hx;exact h2.2
       ·refine List.pairwise_append.2 ⟨hpa.1,by simp,fun a ha b hb=>?_⟩;simp at hb;subst hb;have:=hpa.2.2 a ha p (by simp);unfold GB at *;dsimp only;omega
      ·rename_i h6;rw[e];refine⟨?_,(n,s),by simp,rfl,fun h=>by dsimp only at h;omega⟩;rw[lF];refine⟨fun x hx=>?_,?_⟩
       ·rcases List.mem_append.1 hx with hx | hx
        ·exact hpw.1 x hx
        ·simp at hx;subst hx;exact h2.2
       ·refine List.pairwise_append.2 ⟨hpw.2,by simp,fun a ha b hb=>?_⟩;simp at hb;subst hb;have hpn:p.1 < n∧p.2 < s:=by omega
        rcases List.mem_append.1 ha with ha | ha
        ·have:=hpa.2.2 a ha p (by simp);unfold GB at *;dsimp only;omega
        ·simp at ha;subst ha;exact hpn
theorem rp{p:Pt}{k:Nat}{r:Rp}(h:fa p=0)(h0:¬ p.leader < 0)(hk:atR p.reps p.leader=some k)(hr:p.reps[k]?=some r):gT p=(r.log,0):=by
 rw[gT,if_neg (fun h'=>h' h),if_neg h0,hk];dsimp only;rw[hr];rfl
theorem uL{p:Pt}(h:fa p≠0∨p.leader < 0):(gT p).1=gG∧(gT p).2≠0:=by
 unfold gT;by_cases k1:fa p=0
 ·rcases h with h | h
  ·exact absurd k1 h
  ·rw[if_neg (fun h'=>h' k1),if_pos h];exact⟨rfl,by decide⟩
 ·rw[if_pos k1];exact⟨rfl,k1⟩
theorem uF{p:Pt}{i:Nat}{r:Rp}(h:p.reps[i]?=some r)(hid:r.id≠p.leader):(dS p).reps[i]?=some r:=by
 unfold dS;split
 ·exact h
 ·split
  ·exact h
  ·rename_i k hk;split
   ·exact h
   ·rename_i x hx;obtain⟨y,hy,hyid⟩:=gW hk;have hik:k≠i:=fun e=>by
     subst e;rw[h]at hy;cases hy;exact hid hyid
    show(p.reps.set k _)[i]?=_;rw[List.getElem?_set_ne hik,h]
theorem oz{p:Pt}{k:Nat}{r:Rp}(h:okP p)(h0:¬ p.leader < 0)(hr:p.reps[k]?=some r)(hid:r.id=p.leader):r.up=true:=by
 rcases h.2.2 with h7 | ⟨⟨z,hz,hz1,hz2⟩,h8⟩
 ·omega
 obtain⟨i,hi⟩:=List.mem_iff_getElem?.1 hz;obtain rfl:=xl h hr hi (by rw[hid,hz1]);rw[hr]at hi;cases hi;exact hz2
theorem od(p:Pt)(b:Batch):((m8 p b).1.2≠0∧(m8 p b).1.1=iz∧(m8 p b).2=0) ∨
  (fa p=0∧¬ p.leader < 0∧∃ (k:Nat) (r:Rp) (mb:Batch),atR p.reps p.leader=some k∧p.reps[k]?=some r∧r.id=p.leader∧eW b (eD r.log)=(mb,0)∧(gR r.log { mb with epoch:=p.epoch }).2=0∧(iI r.eps p.epoch mb.base).2=0 ∧
   m8 p b=((dS (fQ p k { r with log:=(gR r.log { mb with epoch:=p.epoch }).1,eps:=(iI r.eps p.epoch mb.base).1 }),0),mb.base)):=by
 have herr:∀ (q:Pt) (e w:Int),e≠0→fa p=0→jI b p=((q,e),w)→((m8 p b).1.2≠0∧(m8 p b).1.1=iz∧(m8 p b).2=0):=fun q e w he hc hF=>by
  rw[mA,hF];dsimp only;rw[np hc he,if_neg he];exact⟨he,rfl,rfl⟩
 by_cases k0:fa p=0;rotate_left
 ·refine .inl ?_;rw[mA];have:mf p (jI b p).1=(iz,fa p):=by rw[mf,if_neg k0]
  rw[this,if_neg k0];exact⟨k0,rfl,rfl⟩
 by_cases k1:p.leader < 0
 ·exact .inl (herr p 180 0 (by decide) k0 (by unfold jI;rw[if_pos k1]))
 by_cases k2:(p.isr.length:Int) < p.least
 ·exact .inl (herr p 181 0 (by decide) k0 (by unfold jI;rw[if_neg k1,if_pos k2]))
 obtain⟨k,r,hk,hr,hid⟩:=ku (jO k0) k1;generalize hm:eW b (eD r.log)=m;obtain⟨mb,me⟩:=m;by_cases k3:me=0;rotate_left
 ·refine .inl (herr p me 0 k3 k0 ?_);unfold jI;rw[if_neg k1,if_neg k2,hk];dsimp only;rw[hr];dsimp only;rw[hm];dsimp only;rw[if_pos k3]
 subst k3;generalize ha:gR r.log { mb with epoch:=p.epoch }=a;obtain⟨al,ae⟩:=a;by_cases k4:ae=0;rotate_left
 ·refine .inl (herr p ae mb.base k4 k0 ?_);unfold jI;rw[if_neg k1,if_neg k2,hk];dsimp only;rw[hr];dsimp only;rw[hm];dsimp only;rw[if_neg (fun h=>h rfl),ha];dsimp only;rw[if_pos k4]
 subst k4;generalize hp:iI r.eps p.epoch mb.base=q;obtain⟨pl,pe⟩:=q;by_cases k5:pe=0;rotate_left
 ·refine .inl (herr p pe mb.base k5 k0 ?_);unfold jI;rw[if_neg k1,if_neg k2,hk];dsimp only;rw[hr];dsimp only;rw[hm];dsimp only;rw[if_neg (fun h=>h rfl),ha];dsimp only;rw[if_neg (fun h=>h rfl),hp];dsimp only;rw[if_pos k5]
 subst k5;refine .inr ⟨k0,k1,k,r,mb,hk,hr,hid,hm,by rw[ha],by rw[hp],?_⟩;rw[mA,wO k1 k2 hk hr rfl hm ha hp];dsimp only;rw[lN k0,if_pos rfl,ha,hp]
theorem nA{b mb:Batch}{n:Int}(h:eW b n=(mb,0)):mb.base=n:=by
 unfold eW at h;split at h
 ·split at h
  ·split at h
   ·cases h;rfl
   ·rename_i h1;exact absurd (Prod.ext_iff.1 h).2 h1
  ·rename_i h1;exact absurd (Prod.ext_iff.1 h).2 h1
 ·cases h
theorem BF{r:Rp}{b:Batch}{ep:Int}(h:okR r)(hup:r.up=true)(ha:(gR r.log b).2=0)(hp:(iI r.eps ep b.base).2=0):okR { r with log:=(gR r.log b).1,eps:=(iI r.eps ep b.base).1 }:=by
 obtain⟨⟨g1,g2,g3,g4⟩,g5,g6⟩:=h;obtain⟨⟨a1,a2,a3,a4⟩,-,a5,a6,-⟩:=iW ha;have g6:=g6 hup;have hle:=sk a2;have hc:=(AT hp).1;refine⟨⟨g1,hc,g3,g4⟩,?_,fun _=>?_⟩
 ·unfold nZ;rw[if_pos hup];exact a5
 ·show r.high≤eD (gR r.log b).1;rw[eD,if_pos a5,a6];rw[eD,if_pos a1]at g6;omega
theorem vw{p:Pt}{k:Nat}{r:Rp}{b:Batch}(h:okP p)(h0:¬ p.leader < 0)(hr:p.reps[k]?=some r)(hid:r.id=p.leader)(ha:(gR r.log b).2=0)(hp:(iI r.eps p.epoch b.base).2=0):
  okP (fQ p k { r with log:=(gR r.log b).1,eps:=(iI r.eps p.epoch b.base).1 }) :=
 lJ h hr rfl (BF (h.1.2.2.2.2 r (List.mem_of_getElem? hr)) (oz h h0 hr hid) ha hp) fun _=>(oz h h0 hr hid:r.up=true)
theorem kW{p:Pt}(h:smP p):smP (dS p):=by
 obtain⟨s1,s2,s3,s4,s5⟩:=ea p;refine⟨fun z hz=>?_,by rw[s5];exact h.2.1,by rw[s4];exact h.2.2⟩;obtain⟨i,hi⟩:=List.mem_iff_getElem?.1 hz;have hi2:=(List.getElem?_eq_some_iff.1 hi).1;rw[s5]at hi2;obtain⟨m,hm⟩:=lG (p:=p) (i:=i) (List.getElem?_eq_getElem hi2);rw[hi]at hm;cases hm;have:=h.1 _ (List.getElem_mem hi2);exact this
theorem p8{p:Pt}{k:Nat}{r:Rp}(h:smP p)(hr:smR r):smP (fQ p k r):=by
 refine⟨fun z hz=>?_,by show(p.reps.set k r).length≤1000;rw[List.length_set];exact h.2.1,h.2.2⟩;rcases List.mem_or_eq_of_mem_set hz with hz | rfl
 ·exact h.1 z hz
 ·exact hr
theorem Ei{r:Rp}{b:Batch}{ep s:Int}(h:Dn r)(ha:(gR r.log b).2=0):smR { r with log:=(gR r.log b).1,eps:=(iI r.eps ep s).1 }:=by
 obtain⟨-,-,a5,-,-,a7⟩:=iW ha;have:=su r.eps ep s;refine⟨nN a5,?_,?_⟩
 ·show(gR r.log b).1.segs.length≤1000;have:=h.1;omega
 ·show(iI r.eps ep s).1.length≤1000;have:=h.2.2;omega
theorem AR{p:Pt}{b:Batch}(hf:z8 p):((m8 p b).1.2≠0∧(m8 p b).1.1=iz∧(m8 p b).2=0) ∨
  ∃ (r:Rp) (mb:Batch) (q:Pt) (l:Lg),m8 p b=((q,0),eD r.log)∧r∈p.reps∧smP q∧gT p=(r.log,0)∧gT q=(l,0)∧smL l.segs∧eW b (eD r.log)=(mb,0)∧iC l=iC r.log++[{ mb with epoch:=p.epoch }]∧q.reps.length=p.reps.length ∧
   ∀ (i:Nat) (a:Rp),p.reps[i]?=some a→a.id≠p.leader→q.reps[i]?=some a:=by
 rcases od p b with h | ⟨k0,k1,k,r,mb,hk,hr,hid,hm,ha,hp,he⟩
 ·exact .inl h
 have hmb:=nA hm;have hok:=jO k0;have hok2:okP (fQ p k { r with log:=(gR r.log { mb with epoch:=p.epoch }).1,eps:=(iI r.eps p.epoch mb.base).1 }):=vw (b:={ mb with epoch:=p.epoch }) hok k1 hr hid ha hp;have hsm2:=p8 (k:=k) hf.sm (Ei (b:={ mb with epoch:=p.epoch }) (ep:=p.epoch) (s:=mb.base) (hf.2.2 r (List.mem_of_getElem? hr)) ha);obtain⟨⟨a1,-⟩,-,a5,-⟩:=iW ha;have hall:=oC ha
 generalize (iI r.eps p.epoch mb.base).1=pl at *;generalize (gR r.log { mb with epoch:=p.epoch }).1=al at *;have hkl:=(List.getElem?_eq_some_iff.1 hr).1;obtain⟨m,hrs⟩:=lG (p:=fQ p k { r with log:=al,eps:=pl }) (gI hr);obtain⟨s1,s2,s3,s4,s5⟩:=ea (fQ p k { r with log:=al,eps:=pl });have hokq:=mM hok2;have hat:=mX hokq.1.2.1.2.2 hrs
 refine .inr ⟨r,mb,_,al,by rw[he,hmb],List.mem_of_getElem? hr,kW hsm2,rp k0 k1 hk hr,?_,nN a5,hm,?_,?_,fun i a hi hne=>?_⟩
 ·refine rp (k:=k) (r:={ r with log:=al,eps:=pl,high:=m }) (jb hokq) (by rw[s2];exact k1) ?_ hrs;rw[s2];show atR _ p.leader=some k;rw[← hid];exact hat
 ·rw[iC,if_pos a5,iC,if_pos a1,hall]
 ·rw[s5];show(p.reps.set k _).length=_;rw[List.length_set]
 ·refine uF ?_ hne;show(p.reps.set k _)[i]?=_;rw[List.getElem?_set_ne fun e=>?_,hi];subst e;rw[hr]at hi;cases hi;exact hne hid
theorem xf{s:Sg}(off:Int)(hw:fe s=true):fe (tR s off)=true∧jL (tR s off)≤jL s∧(tR s off).bytes.length≤s.bytes.length∧em (tR s off)=(em s).takeWhile (Aj off):=by
 obtain⟨r,h⟩:=eX s;obtain⟨k,hk⟩:∃ k,(em s).takeWhile (Aj off)=(em s).take k:=⟨_,List.prefix_iff_eq_take.1 (List.takeWhile_prefix _)⟩;have h1:tR s off=⟨s.base,s.bytes.take (fh ((em s).take k)).length⟩:=by rw[tR,hk]
 have h2:=o9 h k;rw[← h1]at h2;have h3:=congrArg List.length (sE h k);rw[List.length_take]at h3;refine⟨eI.2 ⟨?_,(eI.1 hw).2⟩,?_,by rw[h1,List.length_take];omega,by rw[h2,hk]⟩
 ·rw[fT,h2,h1,List.length_take];omega
 ·rw[jL,h2];exact kb h.ord h.ok k
theorem vV{limit to:Int}:∀ {l:List Sg} {p p':Option Sg},okS limit p l→(∀ a',p'=some a'→∃ a,p=some a∧a'.base=a.base∧jL a'≤jL a)→okS limit p' (oo l to)
 | [],_,_,_,_=>trivial
 | s :: l,p,p',h,hp=>by
  unfold oo;by_cases hb:s.base < to
  ·rw[List.filter_cons,if_pos (decide_eq_true hb),List.map_cons];obtain⟨c1,c2,c3,-⟩:=xf to h.1.1.1;refine⟨⟨⟨c1,by have:=h.1.1.2;omega⟩,fun a' e=>?_⟩,vV h.2 fun a' e=>by cases e;exact⟨s,rfl,rfl,c2⟩⟩;obtain⟨a,hpa,hb1,he1⟩:=hp a' e;have:=ju.1 (h.1.2 a hpa);exact ju.2 ⟨by show a'.base < s.base;omega,by show jL a'≤s.base;omega⟩
  ·have:(s :: l).filter (fun s=>decide (s.base < to))=[]:=List.filter_eq_nil_iff.2 fun c hc=>by
    have:s.base≤c.base:=by
     rcases List.mem_cons.1 hc with rfl | hc
     ·exact Int.le_refl _
     ·have h2:=qd h.2 c hc;have h3:=xE s;omega
    simp;omega
   rw[this];trivial
theorem Fm{l:Lg}{to:Int}(h:(lZ l to).2=0):fj l=0∧(l.start≤to∧to≤rK l)∧lZ l to=(⟨l.limit,l.start,qt l.segs to⟩,0)∧fj (lZ l to).1=0:=by
 unfold lZ at h ⊢;by_cases hc:fj l=0;rotate_left
 ·rw[if_neg hc]at h;exact absurd h hc
 rw[if_pos hc]at h ⊢;by_cases hb:wV l to=true;rotate_left
 ·rw[if_neg hb]at h;cases h
 rw[if_pos hb];have hb':l.start≤to∧to≤rK l:=by simpa [wV]using hb
 obtain⟨h1,h2,h3,h4⟩:=gY hc;refine⟨hc,hb',rfl,?_⟩;show fj ⟨l.limit,l.start,qt l.segs to⟩=0;unfold qt;split
 ·rename_i he;refine lp h1 (by simp) ⟨⟨⟨eI.2 ⟨rfl,?_⟩,by have:=(hX.1 h1).1;show(0:Int)≤l.limit;omega⟩,fun a ha=>by cases ha⟩,trivial⟩ (by simp)
  match hs:l.segs,h2 with
  | s :: ss,_ =>
   rw[hs]at h3 he;have hns:¬ s.base < to:=fun hlt=>by
    rw[oo,List.filter_cons,if_pos (decide_eq_true hlt)]at he;cases he
   have hi:=fP.1 (eI.1 h3.1.1.1).2;have hi2:=fP.1 (hX.1 h1).2;exact fP.2 ⟨by show(0:Int)≤to;omega,by show to≤_;omega⟩
 ·rename_i he;exact lp h1 he (vV h3 fun a' e=>by cases e) (by have:=oF l.segs to;show(oo l.segs to).length≤256;omega)
theorem u0:∀ {bs:List Batch} {l:Lg},fj l=0→(jw l bs).2=true→fj (jw l bs).1=0∧((jw l bs).1.start=l.start∧(jw l bs).1.limit=l.limit)∧xF (jw l bs).1=xF l++bs
 | [],l,h,_=>⟨h,⟨rfl,rfl⟩,by rw[List.append_nil];rfl⟩
 | b :: bs,l,h,ha=>by
  rw[jw]at ha ⊢;split at ha
  ·rename_i h0;rw[if_pos h0];obtain⟨-,⟨a1,a2⟩,a3,-⟩:=iW h0;obtain⟨i1,⟨i2,i3⟩,i4⟩:=u0 (bs:=bs) a3 ha;exact⟨i1,⟨i2.trans a2,i3.trans a1⟩,by rw[i4,oC h0,List.append_assoc];rfl⟩
  ·cases ha
theorem uE{l lead:Lg}{to:Int}(h:(fc l lead to).2=true):fj (fc l lead to).1=0∧((fc l lead to).1.start=l.start∧(fc l lead to).1.limit=l.limit)∧iC (fc l lead to).1=iC lead:=by
 unfold fc at h ⊢;dsimp only at h ⊢;split at h
 ·cases h
 ·rename_i hn;rw[if_neg hn];have hx:(lZ l to).2=0:=Decidable.byContradiction fun k=>hn (.inl k)
  have hl:¬ (iC lead).length < (iC (lZ l to).1).length:=fun k=>hn (.inr (.inl k))
  have he:iC (lZ l to).1=(iC lead).take (iC (lZ l to).1).length:=Decidable.byContradiction fun k=>hn (.inr (.inr k))
  obtain⟨-,-,t1,t2⟩:=Fm hx;obtain⟨a1,a2,a3⟩:=u0 t2 h;refine⟨a1,⟨a2.1.trans (by rw[t1]),a2.2.trans (by rw[t1])⟩,?_⟩;rw[iC,if_pos a1,a3];have hA:iC (lZ l to).1=xF (lZ l to).1:=by rw[iC,if_pos t2]
  conv=>lhs;rw[← hA]
  conv=>lhs;lhs;rw[he]
  rw[List.take_append_drop]
theorem tB(r lead:Rp):((dN r lead).log=lead.log∨((dN r lead).log.start=lead.log.start∧fj (dN r lead).log=0∧iC (dN r lead).log=iC lead.log)):=by
 unfold dN;dsimp only;split
 ·rename_i h;obtain⟨c1,c2,c3⟩:=uE h.2.2;exact .inr ⟨c2.1.trans h.1,c1,c3⟩
 ·exact .inl rfl
theorem tw{r lead:Rp}{m:Int}(h:okR r)(hu:r.up=true)(h2:okR lead)(hu2:lead.up=true)(h0:0≤m)(hm:m≤eD (dN r lead).log):okR { dN r lead with high:=m }:=by
 have hei:=jY (dN r lead).log;refine⟨⟨h.1.1,h2.1.2.1,h0,by show m≤_;omega⟩,?_,fun _=>hm⟩;show fj (if r.up=true then(dN r lead).log else _)=0;rw[if_pos hu];rcases tB r lead with h3 | h3
 ·rw[h3];have:=h2.2.1
  rwa [nZ,if_pos hu2]at this
 ·exact h3.2.1
theorem uS{p:Pt}{is:List Int}(h:okP p)(h1:fm is)(h2:∀ n∈is,n∈fM p.reps)(h3:p.leader∈p.isr→p.leader∈is):okP { p with isr:=is } :=
 ⟨h.1,⟨h1,h2⟩,by rcases h.2.2 with c | ⟨c,d⟩;exact .inl c;exact .inr ⟨c,h3 d⟩⟩
theorem kc:∀ {l:List Int} {n m:Int},m∈l∨m=n→m∈ft l n
 | [],n,m,h=>by
  rcases h with h | rfl
  ·cases h
  ·exact .head _
 | x :: l,n,m,h=>by
  rw[ft];split
  ·rcases h with h | h
   ·rcases List.mem_cons.1 h with rfl | h
    ·exact .head _
    ·exact .tail _ (kc (.inl h))
   ·exact .tail _ (kc (.inr h))
  ·split
   ·rename_i h2;rcases h with h | rfl
    ·exact h
    ·rw[← h2];exact .head _
   ·rcases h with h | rfl
    ·exact .tail _ h
    ·exact .head _
theorem sx:∀ {l:List Int} {n:Int},l.Pairwise (· < ·)→(ft l n).Pairwise (· < ·)
 | [],n,_=>by simp[ft]
 | x :: l,n,h=>by
  obtain⟨h1,h2⟩:=List.pairwise_cons.1 h;rw[ft];split
  ·refine List.pairwise_cons.2 ⟨fun m hm=>?_,sx h2⟩;rcases kJ hm with hm | rfl
   ·exact h1 m hm
   ·assumption
  ·split
   ·exact h
   ·refine List.pairwise_cons.2 ⟨fun m hm=>?_,h⟩;rcases List.mem_cons.1 hm with rfl | hm
    ·omega
    ·have:=h1 m hm;omega
theorem o6:∀ (l:List Int) (n:Int),(ft l n).length≤l.length+1
 | [],n=>by simp[ft]
 | x :: l,n=>by
  rw[ft];split
  ·have:=o6 l n;simp only[List.length_cons];omega
  ·split <;> simp
theorem jA(p:Pt)(n:Int)(f:Pt→Nat→Rp→Pt × Int):((ofP p n f).2≠0∧(ofP p n f).1=iz)∨(okP p∧∃ k r,atR p.reps n=some k∧p.reps[k]?=some r∧r.id=n∧(f p k r).2=0∧ofP p n f=((f p k r).1,0)):=by
 rw[je];by_cases h0:fa p=0;rotate_left
 ·rw[mf,if_neg h0];exact .inl ⟨h0,rfl⟩
 cases hk:atR p.reps n with
 | none =>
  rw[AF _ hk,np h0 (by decide)];exact .inl ⟨by decide,rfl⟩
 | some k =>
  obtain⟨r,hr,hid⟩:=gW hk;rw[mG _ hk hr];obtain⟨q,e,hq⟩:∃ q e,f p k r=(q,e):=⟨_,_,rfl⟩;rw[hq];by_cases he:e=0
  ·subst he;rw[lN h0];exact .inr ⟨jO h0,k,r,rfl,hr,hid,by rw[hq],by rw[hq]⟩
  ·rw[np h0 he];exact .inl ⟨he,rfl⟩
def qo(p q:Pt):Prop:=okP q∧fM q.reps=fM p.reps∧q.least=p.least
theorem qo.refl{p:Pt}(h:okP p):qo p p:=⟨h,rfl,rfl⟩
theorem qe(p:Pt):fM (dS p).reps=fM p.reps:=by
 unfold dS;split
 ·rfl
 ·split
  ·rfl
  ·split
   ·rfl
   ·rename_i r hr;exact il hr rfl
theorem qo.raise{p q:Pt}(h:qo p q):qo p (dS q):=⟨mM h.1,by rw[qe,h.2.1],by rw[(ea q).2.2.1,h.2.2]⟩
theorem sq{n:Int}{p:Pt}{k:Nat}{r:Rp}(h:(iY n p k r).2=0):¬ p.leader < 0∧n≠p.leader∧(iY n p k r).1=dS { p with isr:=p.isr.filter fun m=>decide (m≠n) }:=by
 unfold iY at h ⊢;split at h
 ·cases h
 ·rename_i h1;rw[if_neg h1];split at h
  ·cases h
  ·rename_i h2;rw[if_neg h2];exact⟨h1,fun e=>h2 (.inl e),rfl⟩
theorem xk{n:Int}{p:Pt}{k:Nat}{r:Rp}(hp:okP p)(h:(iY n p k r).2=0):qo p (iY n p k r).1:=by
 obtain⟨h1,h2,h3⟩:=sq h;rw[h3];have hl:p.leader∈p.isr:=by
  rcases hp.2.2 with h | h
  ·omega
  ·exact h.2
 have hin:p.leader∈p.isr.filter fun m=>decide (m≠n):=List.mem_filter.2 ⟨hl,decide_eq_true (Ne.symm h2)⟩
 refine qo.raise ⟨uS hp (pW hp.2.1.1 List.filter_sublist fun e=>?_) (fun m hm=>hp.2.1.2 m (List.mem_filter.1 hm).1) fun _=>hin,rfl,rfl⟩;rw[e]at hin;cases hin
theorem nS{n t:Int}{p:Pt}{k:Nat}{r:Rp}(h:(gu n t p k r).2=0):0≤t∧r.up=true∧(gu n t p k r).1=dS (fQ (eY (eu p n) n) k (ix r t)):=by
 unfold gu at h ⊢;split at h
 ·cases h
 ·rename_i h1;rw[if_neg h1];split at h
  ·cases h
  ·rename_i h2;rw[if_neg h2];refine⟨by omega,by simpa using h2,?_⟩;show dS _=_;congr 1;unfold eY;by_cases h5:1 < p.isr.length
   ·rw[if_pos (show 1 < (eu p n).isr.length from h5),if_pos h5];rfl
   ·rw[if_neg (show ¬ 1 < (eu p n).isr.length from h5),if_neg h5];rfl
theorem jy(p:Pt)(n:Int):(eY p n).reps=p.reps∧(eY p n).least=p.least∧(eY p n).epoch=p.epoch∧(eY p n).leader=p.leader∧(eY p n).isr.Sublist p.isr:=by
 unfold eY;split
 ·exact⟨rfl,rfl,rfl,rfl,List.filter_sublist⟩
 ·exact⟨rfl,rfl,rfl,rfl,List.Sublist.refl _⟩
theorem tz{n t:Int}{p:Pt}{k:Nat}{r:Rp}(hp:okP p)(hr:p.reps[k]?=some r)(hid:r.id=n)(h:(gu n t p k r).2=0):qo p (gu n t p k r).1:=by
 obtain⟨h1,h2,h3⟩:=nS h;obtain⟨s1,s2,s3,-⟩:=jy (eu p n) n;rw[h3];refine qo.raise ⟨uU hp hr hid h2 h1,?_,?_⟩
 ·show fM ((eY (eu p n) n).reps.set k (ix r t))=_;rw[s1];exact il hr rfl
 ·show(eY (eu p n) n).least=_;rw[s2];rfl
theorem wS{p:Pt}{k:Nat}{r:Rp}(h:(jv p k r).2=0):r.up=false∧(jv p k r).1=fQ p k (pk r):=by
 unfold jv at h ⊢;split at h
 ·cases h
 ·rename_i h1;rw[if_neg h1];exact⟨by simpa using h1,rfl⟩
theorem zp{r:Rp}(h:okR r)(hd:r.up=false):okR (pk r):=by
 have hei:=jY (ia r.log).1;obtain⟨⟨h1,h2,h3,h4⟩,h5,-⟩:=h;rw[nZ,hd,if_neg (by decide)]at h5;refine⟨⟨h1,C5 _ _,?_,?_⟩,?_,fun _=>?_⟩
 ·show 0≤min r.high _;omega
 ·show min r.high _≤_;omega
 ·show fj (if true=true then(ia r.log).1 else _)=0;rw[if_pos rfl];exact h5
 ·show min r.high (eD (ia r.log).1)≤eD (ia r.log).1;omega
theorem uM{p:Pt}{k:Nat}{r:Rp}(hp:okP p)(hr:p.reps[k]?=some r)(h:(jv p k r).2=0):qo p (jv p k r).1:=by
 obtain⟨h1,h2⟩:=wS h;rw[h2];exact⟨lJ hp hr rfl (zp (hp.1.2.2.2.2 r (List.mem_of_getElem? hr)) h1) fun _=>rfl,il hr rfl,rfl⟩
theorem rF{n:Int}{p:Pt}{k:Nat}{r:Rp}(h:(fL n p k r).2=0):r.up=true∧n∈p.isr∧p.epoch≠1048576∧(fL n p k r).1=dS { p with epoch:=p.epoch+1,leader:=n }:=by
 unfold fL at h ⊢;split at h
 ·cases h
 ·rename_i h1;rw[if_neg h1];split at h
  ·cases h
  ·rename_i h2;rw[if_neg h2];split at h
   ·cases h
   ·rename_i h3;rw[if_neg h3];exact⟨by simpa using h1,Decidable.not_not.1 h2,h3,rfl⟩
theorem tL{n:Int}{p:Pt}{k:Nat}{r:Rp}(hp:okP p)(hr:p.reps[k]?=some r)(hid:r.id=n)(h:(fL n p k r).2=0):qo p (fL n p k r).1:=by
 obtain⟨h1,h2,h3,h4⟩:=rF h;rw[h4];have he:0≤p.epoch∧p.epoch≤1048576:=by simpa [idI]using hp.1.1
 exact qo.raise ⟨⟨⟨by simp[idI];omega,hp.1.2⟩,hp.2.1,.inr ⟨⟨r,List.mem_of_getElem? hr,hid,h1⟩,h2⟩⟩,rfl,rfl⟩
noncomputable def iq(n:Int)(p:Pt)(k:Nat)(r lead:Rp):Pt :=
 { p with isr:=if lead.high≤eD (dN r lead).log then ft p.isr n else p.isr,reps:=p.reps.set k { dN r lead with high:=min r.high (eD (dN r lead).log) } }
theorem sh{n:Int}{p:Pt}{k:Nat}{r:Rp}(hp:okP p)(hid:r.id=n)(h:(hO n p k r).2=0):¬ p.leader < 0∧r.up=true∧((n=p.leader∧(hO n p k r).1=p)∨(n≠p.leader∧∃ j lead,atR p.reps p.leader=some j∧p.reps[j]?=some lead∧lead.id=p.leader∧lead.up=true ∧
  (hO n p k r).1=fQ (dS (iq n p k r lead)) k { dN r lead with high:=min (max (min r.high (eD (dN r lead).log)) (((dS (iq n p k r lead)).reps[j]?).getD lead).high) (eD (dN r lead).log) })):=by
 unfold hO at h ⊢;split at h
 ·cases h
 ·rename_i h1;rw[if_neg h1];have hl:¬ p.leader < 0:=fun h=>h1 (.inl h)
  refine⟨hl,by simpa using fun h=>h1 (.inr h),?_⟩;by_cases h2:n=p.leader
  ·rw[if_pos h2];exact .inl ⟨h2,rfl⟩
  rw[if_neg h2];obtain⟨j,lead,hj,hl2,hli⟩:=ku hp hl;rw[hj];dsimp only;rw[hl2];exact .inr ⟨h2,j,lead,rfl,hl2,hli,oz hp hl hl2 hli,rfl⟩
theorem uw{n:Int}{p:Pt}{k:Nat}{r:Rp}(hp:okP p)(hr:p.reps[k]?=some r)(hid:r.id=n)(h:(hO n p k r).2=0):qo p (hO n p k r).1:=by
 obtain⟨h1,h2,h3⟩:=sh hp hid h;rcases h3 with⟨-,h3⟩ | ⟨hne,j,lead,hj,hl,hli,hlu,h3⟩
 ·rw[h3];exact .refl hp
 rw[h3];have hro:=hp.1.2.2.2.2 r (List.mem_of_getElem? hr);have hlo:=hp.1.2.2.2.2 lead (List.mem_of_getElem? hl);have hei:=jY (dN r lead).log;have hrh:=hro.1.2.2.1;have hfo:∀ m,0≤m→m≤eD (dN r lead).log→okR { dN r lead with high:=m }:=fun m h0 hm=>tw hro h2 hlo hlu h0 hm
 have hid1:fM (p.reps.set k { dN r lead with high:=min r.high (eD (dN r lead).log) })=fM p.reps:=il hr rfl;have hok1:okP (iq n p k r lead):=by
  have h5:okP (fQ p k { dN r lead with high:=min r.high (eD (dN r lead).log) }):=lJ hp hr rfl (hfo _ (by omega) (by omega)) fun _=>(h2:r.up=true)
  refine uS h5 ?_ (fun m hm=>?_) fun hm=>?_
  ·show fm (if lead.high≤eD (dN r lead).log then ft p.isr n else p.isr);split
   ·refine⟨fun e=>?_,fun m hm=>?_,sx hp.2.1.1.2.2⟩
    ·have:n∈ft p.isr n:=kc (.inr rfl);rw[e]at this;cases this
    ·rcases kJ hm with hm | rfl
     ·exact hp.2.1.1.2.1 m hm
     ·rw[← hid];exact hro.1.1
   ·exact hp.2.1.1
  ·show m∈fM (p.reps.set k _);rw[hid1];split at hm
   ·rcases kJ hm with hm | rfl
    ·exact hp.2.1.2 m hm
    ·exact List.mem_map.2 ⟨r,List.mem_of_getElem? hr,hid⟩
   ·exact hp.2.1.2 m hm
  ·show p.leader∈(if lead.high≤eD (dN r lead).log then ft p.isr n else p.isr);split
   ·exact kc (.inl hm)
   ·exact hm
 have hk1:(iq n p k r lead).reps[k]?=some { dN r lead with high:=min r.high (eD (dN r lead).log) }:=gI hr;obtain⟨m,hk2⟩:=lG hk1;have hids:=qe (iq n p k r lead);have hsame:=ea (iq n p k r lead);refine⟨lJ (mM hok1) hk2 rfl (hfo _ (by omega) (by omega)) fun _=>(h2:r.up=true),?_,hsame.2.2.1⟩
 have h9:∀ y:Rp,y.id=r.id→fM ((dS (iq n p k r lead)).reps.set k y)=fM p.reps:=fun y hy=>(il hk2 hy).trans (hids.trans hid1)
 exact h9 _ rfl
theorem zg{p:Pt}{b:Batch}(h:(m8 p b).1.2=0):okP p∧qo p (m8 p b).1.1∧(m8 p b).1.1.epoch=p.epoch∧(m8 p b).1.1.leader=p.leader:=by
 rcases od p b with⟨h1,-⟩ | ⟨k0,k1,k,r,mb,hk,hr,hid,hm,ha,hp,he⟩
 ·exact absurd h h1
 have hmb:=nA hm;have hok:=jO k0;rw[he];have hs:=ea (fQ p k { r with log:=(gR r.log { mb with epoch:=p.epoch }).1,eps:=(iI r.eps p.epoch mb.base).1 });exact⟨hok,qo.raise ⟨vw (b:={ mb with epoch:=p.epoch }) hok k1 hr hid ha hp,il hr rfl,rfl⟩,hs.1,hs.2.1⟩
structure DoR where
 kind:Int
 id:Int
 torn:Int
 b:Batch
noncomputable def iL(p:Pt)(d:DoR):Pt × Int :=
 if d.kind=0 then(m8 p d.b).1 else if d.kind=1 then ofP p d.id (hO d.id)else if d.kind=2 then ofP p d.id (iY d.id)else if d.kind=3 then ofP p d.id (gu d.id d.torn)else
  if d.kind=4 then ofP p d.id jv else if d.kind=5 then ofP p d.id (fL d.id)else(p,0)
noncomputable def iy(p:Pt)(d:DoR):Pt:=if (iL p d).2=0 then(iL p d).1 else p
theorem wM{p:Pt}(hp:okP p)(d:DoR):qo p (iy p d)∧p.epoch≤(iy p d).epoch∧((iy p d).epoch=p.epoch∨d.kind=5):=by
 unfold iy;split;rotate_left
 ·exact⟨.refl hp,Int.le_refl _,.inl rfl⟩
 rename_i h;unfold iL at h ⊢;by_cases c0:d.kind=0
 ·rw[if_pos c0]at h ⊢;obtain⟨-,h1,h2,-⟩:=zg h;exact⟨h1,by omega,.inl h2⟩
 rw[if_neg c0]at h ⊢;by_cases c1:d.kind=1
 ·rw[if_pos c1]at h ⊢;rcases jA p d.id (hO d.id)with⟨h1,-⟩ | ⟨-,k,r,hk,hr,hid,h1,h2⟩
  ·exact absurd h h1
  rw[h2];have he:(hO d.id p k r).1.epoch=p.epoch:=by
   obtain⟨-,-,h3⟩:=sh hp hid h1;rcases h3 with⟨-,h3⟩ | ⟨-,j,lead,-,-,-,-,h3⟩
   ·rw[h3]
   ·rw[h3];exact(ea (iq d.id p k r lead)).1
  exact⟨uw hp hr hid h1,Int.le_of_eq he.symm,.inl he⟩
 rw[if_neg c1]at h ⊢;by_cases c2:d.kind=2
 ·rw[if_pos c2]at h ⊢;rcases jA p d.id (iY d.id)with⟨h1,-⟩ | ⟨-,k,r,hk,hr,hid,h1,h2⟩
  ·exact absurd h h1
  rw[h2];have he:(iY d.id p k r).1.epoch=p.epoch:=by rw[(sq h1).2.2];exact(ea _).1
  exact⟨xk hp h1,Int.le_of_eq he.symm,.inl he⟩
 rw[if_neg c2]at h ⊢;by_cases c3:d.kind=3
 ·rw[if_pos c3]at h ⊢;rcases jA p d.id (gu d.id d.torn)with⟨h1,-⟩ | ⟨-,k,r,hk,hr,hid,h1,h2⟩
  ·exact absurd h h1
  rw[h2];have he:(gu d.id d.torn p k r).1.epoch=p.epoch:=by
   rw[(nS h1).2.2];exact(ea _).1.trans (jy (eu p d.id) d.id).2.2.1
  exact⟨tz hp hr hid h1,Int.le_of_eq he.symm,.inl he⟩
 rw[if_neg c3]at h ⊢;by_cases c4:d.kind=4
 ·rw[if_pos c4]at h ⊢;rcases jA p d.id jv with⟨h1,-⟩ | ⟨-,k,r,hk,hr,hid,h1,h2⟩
  ·exact absurd h h1
  rw[h2];have he:(jv p k r).1.epoch=p.epoch:=by rw[(wS h1).2];rfl
  exact⟨uM hp hr h1,Int.le_of_eq he.symm,.inl he⟩
 rw[if_neg c4]at h ⊢;by_cases c5:d.kind=5
 ·rw[if_pos c5]at h ⊢;rcases jA p d.id (fL d.id)with⟨h1,-⟩ | ⟨-,k,r,hk,hr,hid,h1,h2⟩
  ·exact absurd h h1
  rw[h2];have he:(fL d.id p k r).1.epoch=p.epoch+1:=by rw[(rF h1).2.2.2];exact(ea _).1
  exact⟨tL hp hr hid h1,by show p.epoch≤(fL d.id p k r).1.epoch;omega,.inr c5⟩
 ·rw[if_neg c5];exact⟨.refl hp,Int.le_refl _,.inl rfl⟩
theorem zK{p:Pt}{is:List Int}(h:smP p)(hi:is.length≤1000):smP { p with isr:=is }:=⟨h.1,h.2.1,hi⟩
theorem Bv{r:Rp}(h:smR r):smR (pk r):=by
 obtain⟨h1,h2,h3⟩:=h;obtain⟨a,b⟩:=vH h1 h2;exact⟨a,b,Nat.le_trans (List.length_filter_le _ _) h3⟩
theorem wH{r:Rp}(h:smR r)(m:Int):smR { r with high:=m }:=h
theorem AS{n:Int}{p:Pt}{k:Nat}{r:Rp}(hp:okP p)(hr:p.reps[k]?=some r)(hid:r.id=n)(hs:smP p)(hi:p.isr.length≤999)(h:(hO n p k r).2=0):smP (hO n p k r).1:=by
 obtain⟨h1,h2,h3⟩:=sh hp hid h;rcases h3 with⟨-,h3⟩ | ⟨hne,j,lead,hj,hl,hli,hlu,h3⟩
 ·rw[h3];exact hs
 rw[h3];have hf:=qa (hs.1 r (List.mem_of_getElem? hr)) (hs.1 lead (List.mem_of_getElem? hl));refine p8 (kW ?_) (wH hf _);have h5:smP (fQ p k { dN r lead with high:=min r.high (eD (dN r lead).log) }):=p8 hs (wH hf _);refine zK h5 ?_;split
 ·have:=o6 p.isr n;omega
 ·omega
theorem BW{p:Pt}(hf:z8 p)(d:DoR):smP (iy p d):=by
 have hs:=hf.sm;have hi:p.isr.length≤30:=hf.2.1;unfold iy;split;rotate_left
 ·exact hs
 rename_i h;unfold iL at h ⊢;by_cases c0:d.kind=0
 ·rw[if_pos c0]at h ⊢;rcases AR (b:=d.b) hf with⟨h1,-⟩ | ⟨r,mb,q,l,h1,-,h2,-⟩
  ·exact absurd h h1
  ·rw[h1];exact h2
 rw[if_neg c0]at h ⊢;have key:∀ f:Pt→Nat→Rp→Pt × Int,(ofP p d.id f).2=0→(∀ k r,okP p→p.reps[k]?=some r→r.id=d.id→(f p k r).2=0→smP (f p k r).1)→smP (ofP p d.id f).1:=fun f h hk=>by
  rcases jA p d.id f with⟨h1,-⟩ | ⟨hp,k,r,-,hr,hid,h1,h2⟩
  ·exact absurd h h1
  ·rw[h2];exact hk k r hp hr hid h1
 by_cases c1:d.kind=1
 ·rw[if_pos c1]at h ⊢;exact key _ h fun k r hp hr hid h1=>AS hp hr hid hs (by omega) h1
 rw[if_neg c1]at h ⊢;by_cases c2:d.kind=2
 ·rw[if_pos c2]at h ⊢;refine key _ h fun k r hp hr hid h1=>?_
  rw[(sq h1).2.2];exact kW (zK hs (Nat.le_trans (List.length_filter_le _ _) hs.2.2))
 rw[if_neg c2]at h ⊢;by_cases c3:d.kind=3
 ·rw[if_pos c3]at h ⊢;refine key _ h fun k r hp hr hid h1=>?_
  rw[(nS h1).2.2];obtain⟨s1,-,-,-,s5⟩:=jy (eu p d.id) d.id;have hfr:=wq (t:=d.torn) (hf.2.2 r (List.mem_of_getElem? hr));refine kW (p8 ⟨by rw[s1];exact hs.1,by rw[s1];exact hs.2.1,Nat.le_trans s5.length_le hs.2.2⟩ ⟨fun s hs=>by have:=hfr.2.1 s hs;omega,by have:=hfr.1;omega,by have:=hfr.2.2;omega⟩)
 rw[if_neg c3]at h ⊢;by_cases c4:d.kind=4
 ·rw[if_pos c4]at h ⊢;refine key _ h fun k r hp hr hid h1=>?_
  rw[(wS h1).2];exact p8 hs (Bv (hs.1 r (List.mem_of_getElem? hr)))
 rw[if_neg c4]at h ⊢;by_cases c5:d.kind=5
 ·rw[if_pos c5]at h ⊢;refine key _ h fun k r hp hr hid h1=>?_
  rw[(rF h1).2.2.2];exact kW hs
 ·rw[if_neg c5];exact hs
theorem F23:Fun Tryz.prog 23 11 v23 c23 o23:=Fun.mkA Tryz.func23 Tryz.ntmps23
theorem yX(p:Pt)(b:Batch)(cs ds:List Value)(G:Nat→Option Obj)(hp:PE G p cs)(hb:BE G b ds):FnE Tryz.prog 23 #[.agg cs.toArray,.agg ds.toArray] G (fun r=>∃ b,r=.bool b∧(b=true→z8 p)):=by
 have h1:=AD p cs G hp;have h2:=Dr b ds G hb;obtain⟨A,c,B,d,rfl,-⟩:=hp;obtain⟨B2,d2,rfl,-⟩:=hb;refine F23.fnE (by simp) (dF ?_);unfold c23;unfold dY at h1 ⊢;unfold eS at h2 ⊢;intros;refine gr 0 0 ?_;(refine sJ c23r0.eq_1 ?_;try with_reducible exact True.intro);intros;refine gr 5 11 ?_;(refine sJ c23r1.eq_1 ?_;try with_reducible exact True.intro);refine(h1 _ _).mono ?_;rintro r h ⟨⟨b1,rfl,hb⟩,rfl⟩
 cases b1 with
 | false =>
  (refine sI ?_;try with_reducible exact True.intro)
  intros;refine rV ?_;simp only[push_cast,Nat.reduceBEq];exact⟨_,rfl,fun h=>by cases h⟩
 | true =>
  (refine sI ?_;try with_reducible exact True.intro)
  refine(h2 _ _).mono ?_;rintro r h ⟨⟨b2,rfl,-⟩,rfl⟩
  (refine sI ?_;try with_reducible exact True.intro)
  intros;refine rV ?_;simp only[push_cast,Nat.reduceBEq];exact⟨_,rfl,fun h=>hb rfl⟩
theorem F24:Fun Tryz.prog 24 71 v24 c24 o24:=Fun.mkA Tryz.func24 Tryz.ntmps24
def DE(G:Nat→Option Obj)(d:DoR)(cs:List Value):Prop:=∃ B c,cs=.int .i64 d.kind :: .int .i64 d.id :: .int .i64 d.torn :: eS d.b (.slice B d.b.recs.length c)∧BE G d.b (eS d.b (.slice B d.b.recs.length c))∧I64 d.kind∧I64 d.id∧I64 d.torn
theorem BN(p:Pt)(d:DoR)(cs ds:List Value)(G:Nat→Option Obj)(hp:PE G p cs)(hsm:smP p)(hd:DE G d ds):FnD Tryz.prog 24 #[.agg cs.toArray,.agg ds.toArray] G (fun G r=>∃ cs',r=.agg cs'.toArray∧PE G (iy p d) cs'):=by
 have hp0:=hp;obtain⟨A,c,B,d1,rfl,hv1,hv2,hI⟩:=hp;obtain⟨B2,d2,rfl,hb,hk,hi,ht⟩:=hd;refine F24.fnD (by simp) (dF ?_);unfold c24;unfold dY at hp0 ⊢;unfold eS at hb ⊢;intros;refine gr 0 0 ?_;(refine sJ c24r0.eq_1 ?_;try with_reducible exact True.intro);intros;refine gr 7 8 ?_;(refine sJ c24r1.eq_1 ?_;try with_reducible exact True.intro)
 intros;refine gr 0 0 ?_;(refine sJ c24r2.eq_1 ?_;try with_reducible exact True.intro);intros;try refine dv ?_
 refine eA (fun e h=>∃ (G1:Nat→Option Obj) (cs1:List Value),(Gle G G1∧PE G1 (iL p d).1 cs1)∧e 6=.int .i64 (iL p d).2∧h=⟨G1,[.reg 5 cs1,.reg 4 [.int .i64 0,.int .i64 0,.int .i64 0,.slice none 0 0,.slice none 0 0],.reg 3 [.int .i64 d.kind,.int .i64 d.id,.int .i64 d.torn,.int .i64 d.b.base,.int .i64 d.b.last,.int .i64 d.b.src,.int .i64 d.b.epoch,.int .i64 d.b.pid,.int .i64 d.b.gen,.int .i64 d.b.seq,.bool d.b.txn,.int .i64 d.b.ctl,.slice B2 d.b.recs.length d2],.reg 2 [.int .i64 p.epoch,.int .i64 p.leader,.int .i64 p.least,.slice A p.isr.length c,.slice B p.reps.length d1]],[]⟩) ?_ ?_
 ·intros;try refine dv ?_
  intros;refine gr 0 0 ?_;(refine sJ c24r3.eq_1 ?_;try with_reducible exact True.intro);intros;refine gr 11 12 ?_;(refine sJ c24r4.eq_1 ?_;try with_reducible exact True.intro);intros;refine gc ?_;(refine sI ?_;try with_reducible exact True.intro);refine gb (fun k0=>?_) (fun k0=>?_)
  ·have hq:iL p d=(m8 p d.b).1:=if_pos (of_decide_eq_true k0);rw[hq];intros;refine gr 12 20 ?_;(refine sJ c24r5.eq_1 ?_;try with_reducible exact True.intro);refine(lC p d.b _ _ G hp0 hsm hb _ _).mono ?_;rintro r h' ⟨G2,rfl,hg2,cs2,rfl,hpe⟩;have hpe0:=hpe;obtain⟨A5,c5,B5,d5,rfl,-⟩:=hpe;unfold dY
   (refine sI ?_;try with_reducible exact True.intro)
   intros;refine gN ?_;exact eh ⟨G2,_,⟨hg2,hpe0⟩,eE,rfl⟩
  have k0:=of_decide_eq_false k0;intros;refine gr 21 22 ?_;(refine sJ c24r6.eq_1 ?_;try with_reducible exact True.intro);intros;refine gc ?_;(refine sI ?_;try with_reducible exact True.intro);refine gb (fun k1=>?_) (fun k1=>?_)
  ·have hq:iL p d=ofP p d.id (hO d.id):=by rw[iL,if_neg k0,if_pos (of_decide_eq_true k1)]
   rw[hq];intros;refine gr 22 29 ?_;(refine sJ c24r7.eq_1 ?_;try with_reducible exact True.intro);refine(wX p _ d.id G hp0 hsm hi (.inl Jl) _ _).mono ?_;rintro r h' ⟨G2,rfl,hg2,cs2,rfl,hpe⟩;have hpe0:=hpe;obtain⟨A5,c5,B5,d5,rfl,-⟩:=hpe;unfold dY
   (refine sI ?_;try with_reducible exact True.intro)
   intros;refine gN ?_;exact eh ⟨G2,_,⟨hg2,hpe0⟩,eE,rfl⟩
  have k1:=of_decide_eq_false k1;intros;refine gr 30 31 ?_;(refine sJ c24r8.eq_1 ?_;try with_reducible exact True.intro);intros;refine gc ?_;(refine sI ?_;try with_reducible exact True.intro);refine gb (fun k2=>?_) (fun k2=>?_)
  ·have hq:iL p d=ofP p d.id (iY d.id):=by rw[iL,if_neg k0,if_neg k1,if_pos (of_decide_eq_true k2)]
   rw[hq];intros;refine gr 31 38 ?_;(refine sJ c24r9.eq_1 ?_;try with_reducible exact True.intro);refine(xw p _ d.id G hp0 hsm hi _ _).mono ?_;rintro r h' ⟨G2,rfl,hg2,cs2,rfl,hpe⟩;have hpe0:=hpe;obtain⟨A5,c5,B5,d5,rfl,-⟩:=hpe;unfold dY
   (refine sI ?_;try with_reducible exact True.intro)
   intros;refine gN ?_;exact eh ⟨G2,_,⟨hg2,hpe0⟩,eE,rfl⟩
  have k2:=of_decide_eq_false k2;intros;refine gr 39 40 ?_;(refine sJ c24r10.eq_1 ?_;try with_reducible exact True.intro);intros;refine gc ?_;(refine sI ?_;try with_reducible exact True.intro);refine gb (fun k3=>?_) (fun k3=>?_)
  ·have hq:iL p d=ofP p d.id (gu d.id d.torn):=by rw[iL,if_neg k0,if_neg k1,if_neg k2,if_pos (of_decide_eq_true k3)]
   rw[hq];intros;refine gr 40 49 ?_;(refine sJ c24r11.eq_1 ?_;try with_reducible exact True.intro);refine(sA p _ d.id d.torn G hp0 hsm hi ht _ _).mono ?_;rintro r h' ⟨G2,rfl,hg2,cs2,rfl,hpe⟩;have hpe0:=hpe;obtain⟨A5,c5,B5,d5,rfl,-⟩:=hpe;unfold dY
   (refine sI ?_;try with_reducible exact True.intro)
   intros;refine gN ?_;exact eh ⟨G2,_,⟨hg2,hpe0⟩,eE,rfl⟩
  have k3:=of_decide_eq_false k3;intros;refine gr 50 51 ?_;(refine sJ c24r12.eq_1 ?_;try with_reducible exact True.intro);intros;refine gc ?_;(refine sI ?_;try with_reducible exact True.intro);refine gb (fun k4=>?_) (fun k4=>?_)
  ·have hq:iL p d=ofP p d.id jv:=by rw[iL,if_neg k0,if_neg k1,if_neg k2,if_neg k3,if_pos (of_decide_eq_true k4)]
   rw[hq];intros;refine gr 51 58 ?_;(refine sJ c24r13.eq_1 ?_;try with_reducible exact True.intro);refine(rt p _ d.id G hp0 hsm hi _ _).mono ?_;rintro r h' ⟨G2,rfl,hg2,cs2,rfl,hpe⟩;have hpe0:=hpe;obtain⟨A5,c5,B5,d5,rfl,-⟩:=hpe;unfold dY
   (refine sI ?_;try with_reducible exact True.intro)
   intros;refine gN ?_;exact eh ⟨G2,_,⟨hg2,hpe0⟩,eE,rfl⟩
  have k4:=of_decide_eq_false k4;intros;refine gr 59 60 ?_;(refine sJ c24r14.eq_1 ?_;try with_reducible exact True.intro);intros;refine gc ?_;(refine sI ?_;try with_reducible exact True.intro);refine gb (fun k5=>?_) (fun k5=>?_)
  ·have hq:iL p d=ofP p d.id (fL d.id):=by rw[iL,if_neg k0,if_neg k1,if_neg k2,if_neg k3,if_neg k4,if_pos (of_decide_eq_true k5)]
   rw[hq];intros;refine gr 60 67 ?_;(refine sJ c24r15.eq_1 ?_;try with_reducible exact True.intro);refine(nM p _ d.id G hp0 hsm hi _ _).mono ?_;rintro r h' ⟨G2,rfl,hg2,cs2,rfl,hpe⟩;have hpe0:=hpe;obtain⟨A5,c5,B5,d5,rfl,-⟩:=hpe;unfold dY
   (refine sI ?_;try with_reducible exact True.intro)
   intros;refine gN ?_;exact eh ⟨G2,_,⟨hg2,hpe0⟩,eE,rfl⟩
  have hq:iL p d=(p,0):=by rw[iL,if_neg k0,if_neg k1,if_neg k2,if_neg k3,if_neg k4,if_neg (of_decide_eq_false k5)]
  rw[hq];intros;refine gN ?_;exact eh ⟨G,_,⟨.refl _,hp0⟩,eE,rfl⟩
 rintro e h ⟨G1,cs1,⟨hg1,hpe⟩,e6,rfl⟩;refine dz [6] ?_
 (refine sJ @e6 ?_;try with_reducible exact True.intro)
 intros;have hpe0:=hpe;obtain⟨A5,c5,B5,d5,rfl,-⟩:=hpe;unfold dY at hpe0 ⊢;intros;try refine dv ?_
 intros;refine gr 67 68 ?_;(refine sJ c24r16.eq_1 ?_;try with_reducible exact True.intro);intros;refine gc ?_;(refine sI ?_;try with_reducible exact True.intro);refine gb (fun k6=>?_) (fun k6=>?_)
 ·have k6:=of_decide_eq_true k6;intros;refine gr 69 70 ?_;(refine sJ c24r17.eq_1 ?_;try with_reducible exact True.intro);intros;refine rV ?_;simp only[push_cast,Nat.reduceBEq];rw[iy,if_neg k6];exact⟨_,rfl,hp0.le hg1⟩
 ·have k6:(iL p d).2=0:=by simpa using k6
  intros;refine gr 70 71 ?_;(refine sJ c24r18.eq_1 ?_;try with_reducible exact True.intro);intros;refine rV ?_;simp only[push_cast,Nat.reduceBEq];rw[iy,if_pos k6];exact⟨_,rfl,hpe0⟩
end Go.Proofs.YtpmofpekcbghnaaGreat
namespace Go.Proofs.YtpmofpekcbghnaaGreat
open Go Go.Kx Go.RowKit
theorem xY(W:World):fR Tryz.prog W 45 (DE (m9 W)):=fun H enc fuel cs x hx=>by
 obtain⟨hl,hf⟩:=qh (k:=13) Tryz.underlying45 (by kernel_rfl) hx
 match cs,hl with
 | [x0,x1,x2,y0,y1,y2,y3,y4,y5,y6,y7,y8,y9],_ =>
  obtain⟨_,_,t0⟩:=hf 0 _ rfl 0 1 rfl (by kernel_rfl);obtain⟨_,_,t1⟩:=hf 1 _ rfl 1 1 rfl (by kernel_rfl);obtain⟨_,_,t2⟩:=hf 2 _ rfl 2 1 rfl (by kernel_rfl);obtain⟨_,_,t3⟩:=hf 3 _ rfl 3 10 rfl (by kernel_rfl);obtain⟨n0,e0,w0⟩:=eb Tryz.underlying3 _ _ _ _ _ t0;obtain⟨n1,e1,w1⟩:=eb Tryz.underlying3 _ _ _ _ _ t1;obtain⟨n2,e2,w2⟩:=eb Tryz.underlying3 _ _ _ _ _ t2;obtain⟨b,hb⟩:=rk W _ _ _ _ _ t3
  cases (show[x0]=[.int .i64 n0]from e0);cases (show[x1]=[.int .i64 n1]from e1);cases (show[x2]=[.int .i64 n2]from e2);have hb0:=hb;obtain⟨A,c,e3,-⟩:=hb;cases (show[y0,y1,y2,y3,y4,y5,y6,y7,y8,y9]=eS b (.slice A b.recs.length c)from e3);exact⟨⟨n0,n1,n2,b⟩,A,c,rfl,hb0,fx w0,fx w1,fx w2⟩
end Go.Proofs.YtpmofpekcbghnaaGreat
namespace Go.Proofs.YtpmofpekcbghnaaGreat
open Go Go.Kx
theorem F5:Fun Tryz.prog 5 65 v5 c5 o5:=Fun.mkA Tryz.func5 Tryz.ntmps5
theorem uT{p:Pt}{k:Nat}{r:Rp}(h:okP p)(h0:¬ p.leader < 0)(hr:p.reps[k]?=some r)(hid:r.id=p.leader):kl p=r.high∧gT p=(r.log,0)∧r.high≤eD r.log:=by
 have hk:atR p.reps p.leader=some k:=by rw[← hid];exact mX h.1.2.1.2.2 hr
 refine⟨?_,rp (jb h) h0 hk hr,(h.1.2.2.2.2 r (List.mem_of_getElem? hr)).2.2 (oz h h0 hr hid)⟩;rw[kl,if_neg (fun hh=>hh (jb h)),if_pos (show 0≤p.leader by omega),hk];dsimp only;rw[hr];rfl
def Up(p q:Pt)(r:Rp)(k:Nat):Prop:=∃ y,q.reps[k]?=some y∧y.id=r.id∧r.high≤y.high
theorem Up.raise{p q:Pt}{r:Rp}{k:Nat}(h:Up p q r k):Up p (dS q) r k:=by
 obtain⟨y,hy,h1,h2⟩:=h;unfold dS;split
 ·exact⟨y,hy,h1,h2⟩
 ·split
  ·exact⟨y,hy,h1,h2⟩
  ·rename_i j hj;split
   ·exact⟨y,hy,h1,h2⟩
   ·rename_i z hz;by_cases hjk:j=k
    ·subst hjk;rw[hy]at hz;cases hz;exact⟨_,gI hy,h1,by show r.high≤max y.high _;omega⟩
    ·refine⟨y,?_,h1,h2⟩;show(q.reps.set j _)[k]?=_;rw[List.getElem?_set_ne hjk,hy]
theorem zj{p:Pt}{d:DoR}(hp:okP p)(h0:¬ p.leader < 0)(hk:d.kind≤3):(iy p d).leader < 0∨((iy p d).leader=p.leader∧∃ k r,p.reps[k]?=some r∧r.id=p.leader∧Up p (iy p d) r k):=by
 obtain⟨k,r,hkk,hr,hid⟩:=ku hp h0;have hsame:(p.leader=p.leader∧∃ k r,p.reps[k]?=some r∧r.id=p.leader∧Up p p r k):=⟨rfl,k,r,hr,hid,r,hr,rfl,Int.le_refl _⟩;unfold iy;split;rotate_left
 ·exact .inr hsame
 rename_i h;unfold iL at h ⊢;by_cases c0:d.kind=0
 ·rw[if_pos c0]at h ⊢;rcases od p d.b with⟨h1,-⟩ | ⟨-,-,k',r',mb,hk',hr',hid',-,-,-,he⟩
  ·exact absurd h h1
  rw[hkk]at hk';cases hk';rw[hr]at hr';cases hr';rw[he];exact .inr ⟨(ea _).2.1,k,r,hr,hid,Up.raise ⟨_,gI hr,rfl,Int.le_refl _⟩⟩
 rw[if_neg c0]at h ⊢;by_cases c1:d.kind=1
 ·rw[if_pos c1]at h ⊢;rcases jA p d.id (hO d.id)with⟨h1,-⟩ | ⟨-,i,s,hi,hs,hsid,h1,h2⟩
  ·exact absurd h h1
  rw[h2];obtain⟨-,-,h3⟩:=sh hp hsid h1;rcases h3 with⟨-,h3⟩ | ⟨hne,j,lead,hj,hl,hli,hlu,h3⟩
  ·dsimp only;rw[h3];exact .inr hsame
  dsimp only;rw[h3];have hik:i≠k:=fun e=>by
   subst e;rw[hr]at hs;cases hs;exact hne (by rw[← hsid,hid])
  refine .inr ⟨(ea (iq d.id p i s lead)).2.1,k,r,hr,hid,?_⟩;obtain⟨y,hy,h4,h5⟩:=Up.raise (p:=p) (q:=iq d.id p i s lead) (r:=r) (k:=k) ⟨r,by show(p.reps.set i _)[k]?=_;rw[List.getElem?_set_ne hik,hr],rfl,Int.le_refl _⟩;exact⟨y,by show((dS (iq d.id p i s lead)).reps.set i _)[k]?=_;rw[List.getElem?_set_ne hik,hy],h4,h5⟩
 rw[if_neg c1]at h ⊢;by_cases c2:d.kind=2
 ·rw[if_pos c2]at h ⊢;rcases jA p d.id (iY d.id)with⟨h1,-⟩ | ⟨-,i,s,hi,hs,hsid,h1,h2⟩
  ·exact absurd h h1
  rw[h2];dsimp only;rw[(sq h1).2.2];exact .inr ⟨(ea _).2.1,k,r,hr,hid,Up.raise ⟨r,hr,rfl,Int.le_refl _⟩⟩
 rw[if_neg c2]at h ⊢;by_cases c3:d.kind=3
 ·rw[if_pos c3]at h ⊢;rcases jA p d.id (gu d.id d.torn)with⟨h1,-⟩ | ⟨-,i,s,hi,hs,hsid,h1,h2⟩
  ·exact absurd h h1
  rw[h2];dsimp only;rw[(nS h1).2.2];obtain⟨s1,-,-,s4,-⟩:=jy (eu p d.id) d.id;have hl:(dS (fQ (eY (eu p d.id) d.id) i (ix s d.torn))).leader=if p.leader=d.id then -1 else p.leader:=(ea _).2.1.trans s4
  by_cases hld:p.leader=d.id
  ·rw[if_pos hld]at hl;exact .inl (by omega)
  ·rw[if_neg hld]at hl;refine .inr ⟨hl,k,r,hr,hid,Up.raise ⟨r,?_,rfl,Int.le_refl _⟩⟩;have hik:i≠k:=fun e=>by
    subst e;rw[hr]at hs;cases hs;exact hld (by rw[← hsid,hid])
   show((eY (eu p d.id) d.id).reps.set i _)[k]?=_;rw[List.getElem?_set_ne hik,s1];exact hr
 rw[if_neg c3]at h ⊢;by_cases c4:d.kind=4
 ·omega
 rw[if_neg c4]at h ⊢;by_cases c5:d.kind=5
 ·omega
 ·rw[if_neg c5];exact .inr hsame
theorem ul{p:Pt}{d:DoR}(h1:(gT p).2=0)(h2:(gT (iy p d)).2=0)(hk:d.kind≤3):kl p≤kl (iy p d)∧kl (iy p d)≤eD (gT (iy p d)).1∧(iy p d).leader=p.leader∧∃ y∈(iy p d).reps,(gT (iy p d)).1=y.log:=by
 have hp:fa p=0:=Decidable.byContradiction fun h=>(uL (.inl h)).2 h1
 have h0:¬ p.leader < 0:=fun h=>(uL (.inr h)).2 h1
 have hx0:¬ (iy p d).leader < 0:=fun h=>(uL (.inr h)).2 h2
 have hok:=jO hp;have hkx:=(wM hok d).1.1;rcases zj hok h0 hk with h | ⟨h3,k,r,hr,hid,y,hy,h4,h5⟩
 ·exact absurd h hx0
 obtain⟨e1,-,-⟩:=uT hok h0 hr hid;obtain⟨e2,e3,e4⟩:=uT hkx hx0 hy (by rw[h4,hid,h3]);rw[e1,e2,e3];exact⟨h5,e4,h3,y,List.mem_of_getElem? hy,rfl⟩
theorem DE.le{G G':Nat→Option Obj}(hg:Gle G G'){d:DoR}{cs:List Value}(h:DE G d cs):DE G' d cs:=by
 obtain⟨B,c,h1,h2,h3⟩:=h;exact⟨B,c,h1,BE.le hg h2,h3⟩
theorem qz(p:Pt)(d:DoR)(cs ds:List Value)(G:Nat→Option Obj)(hp:PE G p cs)(hd:DE G d ds):FnS Tryz.prog 5 #[.agg cs.toArray,.agg ds.toArray] G (.bool true):=by
 have hlive:=Gr G;have hp0:=hp;have hd0:=hd;obtain⟨A,c,B,d1,rfl,hv1,hv2,hI⟩:=hp;obtain⟨B2,d2,rfl,hb,-⟩:=hd;have hfew:=yX p d.b _ _ G hp0 hb;unfold dY at hp0 hfew ⊢;unfold eS at hd0 hb hfew ⊢;refine F5.fnS (by simp) (dF ?_);unfold c5
 have hyes:∀ (fr:List Td) (e:Env),e 5=.bool true→go none Tryz.prog 65 v5.1 v5.2 (fW o5 fun v x=>v=.bool true) (Td.s ((SC.reg false c5r3).seq .ret) :: fr) e ⟨G,[.reg 3 [.int .i64 d.kind,.int .i64 d.id,.int .i64 d.torn,.int .i64 d.b.base,.int .i64 d.b.last,.int .i64 d.b.src,.int .i64 d.b.epoch,.int .i64 d.b.pid,.int .i64 d.b.gen,.int .i64 d.b.seq,.bool d.b.txn,.int .i64 d.b.ctl,.slice B2 d.b.recs.length d2],.reg 2 [.int .i64 p.epoch,.int .i64 p.leader,.int .i64 p.least,.slice A p.isr.length c,.slice B p.reps.length d1]],[]⟩:=fun fr e e5=>by
  intros;refine gr 22 23 ?_;(refine sJ2 c5r3.eq_1 @e5 ?_;try with_reducible exact True.intro);intros;refine rV ?_;simp only[push_cast,Nat.reduceBEq]
 intros;refine gr 0 0 ?_;(refine sJ c5r0.eq_1 ?_;try with_reducible exact True.intro);intros;refine gr 11 12 ?_;(refine sJ c5r1.eq_1 ?_;try with_reducible exact True.intro);refine(hlive _ _).mono ?_;rintro _ _ ⟨rfl,rfl⟩;(refine sI ?_;try with_reducible exact True.intro);intros;try refine dv ?_
 intros;refine gr 12 21 ?_;(refine sJ c5r2.eq_1 ?_;try with_reducible exact True.intro);refine(hfew _ _).mono ?_;rintro r h' ⟨⟨b1,rfl,hb1⟩,rfl⟩;cases b1 with
 | false =>
  (refine sI ?_;try with_reducible exact True.intro)
  intros;refine gc ?_;(refine sI ?_;try with_reducible exact True.intro);exact hyes _ _ (eE)
 | true =>
 have hfw:=hb1 rfl;have hsm:=hfw.sm
 (refine sI ?_;try with_reducible exact True.intro)
 intros;refine gc ?_;(refine sI ?_;try with_reducible exact True.intro);refine gb (fun k1=>?_) (fun k1=>?_)
 ·exact hyes _ _ (eE)
 have k1:d.kind≤3:=by have:=of_decide_eq_false k1;omega
 clear hyes;intros;refine gN ?_;intros;try refine dv ?_
 intros;refine gr 23 28 ?_;(refine sJ c5r4.eq_1 ?_;try with_reducible exact True.intro);refine(rB p _ G hp0 hsm _ _).mono ?_;rintro r h' ⟨G1,rfl,hg1,cs1,rfl,hle⟩;obtain⟨A4,c4,rfl,-⟩:=hle;unfold ek
 (refine sI ?_;try with_reducible exact True.intro)
 intros;try refine dv ?_
 intros;refine gr 28 31 ?_;(refine sJ c5r5.eq_1 ?_;try with_reducible exact True.intro);refine(BN p d _ _ G1 (hp0.le hg1) hsm (DE.le hg1 hd0) _ _).mono ?_;rintro r h' ⟨G2,rfl,hg2,cs2,rfl,hpe⟩;have hlaw:=ul (p:=p) (d:=d);have hsx:=BW hfw d;generalize iy p d=x at *;have hpe0:=hpe;obtain⟨A5,c5,B5,d5,rfl,-⟩:=hpe;unfold dY at hpe0 ⊢
 (refine sI ?_;try with_reducible exact True.intro)
 intros;try refine dv ?_
 intros;refine gr 31 36 ?_;(refine sJ c5r6.eq_1 ?_;try with_reducible exact True.intro);refine(rB x _ G2 hpe0 hsx _ _).mono ?_;rintro r h' ⟨G3,rfl,hg3,cs3,rfl,hle⟩;have hle0:=hle;obtain⟨A6,c6,rfl,-⟩:=hle;unfold ek at hle0 ⊢
 (refine sI ?_;try with_reducible exact True.intro)
 intros;try refine dv ?_
 by_cases ha:(gT p).2=0;rotate_left
 ·have hda:=decide_eq_true (p:=(gT p).2≠0) ha;intros;refine gr 36 41 ?_;(refine sJ2 c5r7.eq_1 @hda ?_;try with_reducible exact True.intro);intros;refine gc ?_;(refine sI ?_;try with_reducible exact True.intro);intros;refine gr 42 43 ?_;(refine sJ c5r8.eq_1 ?_;try with_reducible exact True.intro);intros;refine rV ?_;simp only[push_cast,Nat.reduceBEq]
 by_cases hb:(gT x).2=0;rotate_left
 ·have hdb:=decide_eq_true (p:=(gT x).2≠0) hb;rw[ha];intros;refine gr 36 41 ?_;(refine sJ3 c5r7.eq_1 @dn0 @hdb ?_;try with_reducible exact True.intro);intros;refine gc ?_;(refine sI ?_;try with_reducible exact True.intro);intros;refine gr 42 43 ?_;(refine sJ c5r8.eq_1 ?_;try with_reducible exact True.intro);intros;refine rV ?_;simp only[push_cast,Nat.reduceBEq]
 obtain⟨h1,h2,h3,y,hy,hyl⟩:=hlaw ha hb k1;rw[ha,hb];intros;refine gr 36 41 ?_;(refine sJ2 c5r7.eq_1 @dn0 ?_;try with_reducible exact True.intro);intros;refine gc ?_;(refine sI ?_;try with_reducible exact True.intro);intros;refine gN ?_;intros;try refine dv ?_
 have hg:=hg1.trans (hg2.trans hg3);have hsl:smL (gT x).1.segs∧(gT x).1.segs.length≤1000000:=by
  rw[hyl];exact⟨(hsx.1 y hy).1,Nat.le_trans (hsx.1 y hy).2.1 (by decide)⟩
 have hend:=rI _ _ G3 hle0 hsl.1 hsl.2;have hd1:=decide_eq_true h1;have hd2:=decide_eq_true h2;have hd3:=decide_eq_true h3;have hh1:=lr x _ G3 (hpe0.le hg3) hsx;have hh2:=lr p _ G3 (hp0.le hg) hsm
 (intros;try refine du ?_);refine o3 _ (List.Sublist.refl _) (by decide) ?_;(refine sJ c5r9.eq_1 ?_;try with_reducible exact True.intro)
 refine(hh1 _ _).mono ?_;rintro _ _ ⟨rfl,rfl⟩;(refine sI ?_;try with_reducible exact True.intro);refine(hh2 _ _).mono ?_;rintro _ _ ⟨rfl,rfl⟩;(refine sJ @hd1 ?_;try with_reducible exact True.intro)
 (refine sJ @hd1 ?_;try with_reducible exact True.intro)
 refine(hh1 _ _).mono ?_;rintro _ _ ⟨rfl,rfl⟩;(refine sJ @hd1 ?_;try with_reducible exact True.intro);refine(hend _ _).mono ?_;rintro _ _ ⟨rfl,rfl⟩;(refine sJ2 @hd2 @hd1 ?_;try with_reducible exact True.intro)
 (refine sJ2 @hd2 @hd3 ?_;try with_reducible exact True.intro)
 intros;refine rV ?_;simp only[push_cast,Nat.reduceBEq]
end Go.Proofs.YtpmofpekcbghnaaGreat

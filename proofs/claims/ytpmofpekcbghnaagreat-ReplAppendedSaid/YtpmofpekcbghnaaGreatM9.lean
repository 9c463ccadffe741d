/- Parts of a proof, 24 texts in one file. No condition. -/
import Derived.Test.YtpmofpekcbghnaaGreatM1
import Derived.Test.YtpmofpekcbghnaaGreatM2
import Derived.Test.YtpmofpekcbghnaaGreatM3
import Derived.Test.YtpmofpekcbghnaaGreatM4
import Derived.Test.YtpmofpekcbghnaaGreatM5
import Derived.Test.YtpmofpekcbghnaaGreatM6
import Derived.Test.YtpmofpekcbghnaaGreatM7
import Derived.Test.YtpmofpekcbghnaaGreatM8
set_option linter.unusedSimpArgs false
set_option linter.unusedVariables false
namespace Go.Proofs.YtpmofpekcbghnaaGreat
open Go Go.Kx
theorem F51:Fun Tryz.prog 51 26 v51 c51 o51:=Fun.mkA Tryz.func51 Tryz.ntmps51
theorem F61:Fun Tryz.prog 61 4 v61 c61 o61:=Fun.mkA Tryz.func61 Tryz.ntmps61
theorem F111:Fun Tryz.prog 111 22 v111 c111 o111:=Fun.mkA Tryz.func111 Tryz.ntmps111
def PtL(p:Pt)(x:Nat)(A:Option Addr)(c:Nat)(B:Option Addr)(d:Nat)(ys zs:List Value):List Kx.Item:=[.blk x (cellT p A c B d),.row (.slice B p.reps.length d) 50 7 p.reps.length zs,.row (.slice A p.isr.length c) 3 1 p.isr.length ys]
def PtG(G:Nat→Option Obj)(p:Pt)(x:Nat)(A:Option Addr)(c:Nat)(B:Option Addr)(d:Nat):Prop :=
 (∀ j u,(cellT p A c B d)[j]?=some u→cellG G ⟨x,j,none⟩=some u)∧SlV G IE 1 (.slice A p.isr.length c) p.isr∧SlV G (RE G) 7 (.slice B p.reps.length d) p.reps
theorem PtG.le{G G':Nat→Option Obj}(hg:Gle G G'){p:Pt}{x:Nat}{A:Option Addr}{c:Nat}{B:Option Addr}{d:Nat}(h:PtG G p x A c B d):PtG G' p x A c B d :=
 ⟨fun j u hu=>cellG_le hg (h.1 j u hu),h.2.1.le hg fun _ _ h=>h,SlR.le hg h.2.2⟩
theorem noRegs_pt{p:Pt}{x:Nat}{A:Option Addr}{c:Nat}{B:Option Addr}{d:Nat}{ys zs:List Value}:NoRegs (PtL p x A c B d ys zs):=noRegs_blk (noRegs_row (noRegs_row noRegs_nil))
theorem lent_pt{p:Pt}{x:Nat}{A:Option Addr}{c:Nat}{B:Option Addr}{d:Nat}{ys zs:List Value}{G:Nat→Option Obj}{L:List Kx.Item}{D:List Nat}(hy:Cells IE 1 p.isr ys)(hz:Cells (RE G) 7 p.reps zs):
  Lent G (PtL p x A c B d ys zs) L D (fun G'=>PtG G' p x A c B d) :=
 lent_cons (M1:=fun G'=>∀ j u,(cellT p A c B d)[j]?=some u→cellG G' (Addr.add ⟨x,0,none⟩ j)=some u) (fun L=>gx_blk) fun G1 hg1 h1 =>
  lent_cons (M1:=fun G'=>SlV G' (RE G1) 7 (.slice B p.reps.length d) p.reps) (fun L=>gx_slv (by decide) (cells_imp hz fun _ _ h=>RE.le hg1 h)) fun G2 hg2 h2 =>
   lent_cons (M1:=fun G'=>SlV G' IE 1 (.slice A p.isr.length c) p.isr) (fun L=>gx_slv (by decide) hy) fun G3 hg3 h3 =>
    lent_nil ⟨fun j u hu=>by
     have:=cellG_le (hg2.trans hg3) (h1 j u hu)
     rwa [add_mk]at this,h3,h2.le hg3 fun _ _ h=>RE.le (hg2.trans hg3) h⟩
def okIds(l:List Rp):Prop:=(idsR l).Pairwise (· < ·)∧∀ r∈l,idI r.id=true
def ptrR(B:Option Addr):Option Nat→Option Addr
 | none=>none
 | some k=>B.map (·.add (k * 7))
theorem at_ok(p:Pt)(x:Nat)(A:Option Addr)(c:Nat)(B:Option Addr)(d:Nat)(n:Int)(G:Nat→Option Obj)(hp:PtG G p x A c B d)(hn:I64 n)(hid:okIds p.reps):
  FnS Tryz.prog 51 #[.pointer (some ⟨x,0,none⟩),.int .i64 n] G (.pointer (ptrR B (atR p.reps n))):=by
 obtain⟨h1,h2,h3⟩:=hp
 have hbs:=BSearchR_ok p.reps n _ G h3 hn hid.1 hid.2
 obtain⟨B0,d0,he,hd0,hmx,hA⟩:=h3
 cases he
 refine F51.fnS (by simp) (go_of ?_)
 unfold c51
 intros;refine gr 0 0 ?_;refine sJ c51r0.eq_1 ?_
 intros;refine gr 7 17 ?_;refine sJ c51r1.eq_1 ?_
 refine⟨_,⟨_,rfl,.g (h1 4 _ rfl)⟩,?_⟩
 refine sI ?_
 refine(hbs _ _).mono ?_
 rintro r h' ⟨⟨j,rfl,hj,hk⟩,rfl⟩
 refine sI ?_
 intros;try refine go_seq ?_
 intros;try refine go_seq ?_
 intros;refine gr 17 18 ?_;refine sJ c51r2.eq_1 ?_
 intros;refine gc ?_;refine sI ?_
 refine gb (fun k1=>?_) (fun k1=>?_)
 ·have k1:atR p.reps n=none:=by simpa using k1
  intros;refine gr 0 0 ?_;refine sJ c51r3.eq_1 ?_
  intros;refine rV ?_;simp only[push_cast,Nat.reduceBEq]
  rw[k1]
  rfl
 ·obtain⟨k,hk1⟩:∃ k,atR p.reps n=some k:=Option.isSome_iff_exists.1 (by simpa using k1)
  have:=hk k hk1
  subst this
  obtain⟨r,hr,-⟩:=atR_get hk1
  have hkl:=(List.getElem?_eq_some_iff.1 hr).1
  obtain⟨a,cs,ha,-⟩:=hA j r hr
  subst ha
  intros;refine gN ?_
  intros;refine gr 19 26 ?_;refine sJ c51r4.eq_1 ?_
  refine⟨_,⟨_,rfl,.g (h1 4 _ rfl)⟩,?_⟩
  refine sI ?_
  refine⟨by omega,a,rfl,?_⟩
  refine sI ?_
  intros;refine rV ?_;simp only[push_cast,Nat.reduceBEq]
  rw[hk1]
  rfl
def AtX(B:Option Addr)(l:List Rp)(_:Nat→Option Obj)(n:Int)(args:Array Value):Prop:=args=#[.pointer (ptrR B (atR l n))]
theorem inStep1_iter(p:Pt)(x b:Nat)(A:Option Addr)(c:Nat)(B:Option Addr)(d:Nat)(G0:Nat→Option Obj)(hp:PtG G0 p x A c B d)(hid:okIds p.reps)(hb:cellG G0 ⟨b,0,none⟩=some (.pointer (some ⟨x,0,none⟩))):
  IterH Tryz.prog 111 #[.pointer (some ⟨b,0,none⟩)] p.isr (AtX B p.reps) G0:=by
 intro yl I Ix G L hG hn hI hIx hmo h0 hy L2 D
 have hargs:(#[.func (.yield yl) #[] #[]]++#[.pointer (some ⟨b,0,none⟩)]:Array Value)=#[.func (.yield yl) #[] #[],.pointer (some ⟨b,0,none⟩)]:=rfl
 rw[hargs]
 have hp:=hp.le hG
 have hb:=cellG_le hG hb
 obtain⟨A0,c0,he,hc0,hmx,hA⟩:=id hp.2.1
 cases he
 refine(F111.calls (R:=fun _ h=>Gle G h.G∧(I p.isr.length h.G h.L∨∃ i,i < p.isr.length∧Ix i h.G h.L)) (by simp) hn (go_of ?_) L2 D).mono ?_
 ·unfold c111
  intros;refine gr 5 9 ?_;refine sJ c111r0.eq_1 ?_
  refine⟨_,⟨_,rfl,.g hb⟩,?_⟩
  refine sI ?_
  refine⟨_,⟨_,rfl,.g (hp.1 3 _ rfl)⟩,?_⟩
  refine sI ?_
  (intros;try refine go_st ?_)
  refine go_loop (fun e h=>∃ (t:Nat) (G':Nat→Option Obj) (L':List Kx.Item),(t≤p.isr.length∧Gle G G'∧NoRegs L'∧I t G' L')∧e 11=.int .i64 t∧e 10=.int .i64 p.isr.length∧e 9=.slice A p.isr.length c∧e 0=.func (.yield yl) #[] #[]∧e 1=.pointer (some ⟨b,0,none⟩)∧h=⟨G',L',[]⟩) (fun e h=>p.isr.length - iv (e 11)) ?_ ?_
  ·exact⟨0,G,L,⟨Nat.zero_le _,.refl G,hn,h0⟩,eE,eE,eE,eE,eE,rfl⟩
  ·rintro e h ⟨t,G',L',⟨ht,hgg,hn',hI'⟩,e11,e10,e9,e0,e1,rfl⟩
   refine go_keep [0,1,9,10,11] ?_
   refine sJ5 @e0 @e1 @e9 @e10 @e11 ?_
   intros;refine gr 0 0 ?_;refine sJ c111r1.eq_1 ?_
   intros;refine gc ?_;refine sI ?_
   refine gb (fun k1=>?_) (fun k1=>?_)
   ·have htl:t < p.isr.length:=by have:=of_decide_eq_true k1;omega
    have hw:=inc_i t c (by omega) hmx
    obtain⟨n,hx⟩:∃ n,p.isr[t]?=some n:=⟨p.isr[t],List.getElem?_eq_getElem (by omega)⟩
    have hb':=cellG_le hgg hb
    have hp':=hp.le hgg
    have hAg:=hA.le (E':=IE) hgg fun _ _ h=>h
    intros;refine gN ?_
    intros;refine gr 13 15 ?_;refine sJ c111r2.eq_1 ?_
    refine hAg.x_l1 hx rfl rfl ?_
    rintro a1 ha1 u1 ⟨hu,hni⟩
    cases hu
    refine sI ?_
    intros;refine gr 15 20 ?_;refine sJ c111r3.eq_1 ?_
    refine⟨_,⟨_,rfl,.g hb'⟩,?_⟩
    refine sI ?_
    refine(at_ok p x A c B d n _ hp' hni hid _ _).mono ?_;rintro _ _ ⟨rfl,rfl⟩;refine sI ?_
    refine .inr ⟨yl,rfl,?_⟩
    refine(yield_nil hy hx hgg rfl hI').mono ?_
    rintro v h' ⟨G2,L3,rfl,hg2,hn2,hr⟩
    rcases hr with⟨rfl,hr⟩ | ⟨rfl,hr⟩
    ·refine sI ?_
     intros;refine gc ?_;refine sI ?_
     intros;refine gN ?_
     intros;refine gr 21 22 ?_;refine sJ2 c111r4.eq_1 @hw ?_
     (intros;try refine go_st ?_)
     refine go_l ⟨⟨t+1,G2,L3,⟨by omega,hgg.trans hg2,hn2,hr⟩,eE,eE,eE,eE,eE,rfl⟩,?_⟩
     refine sI ?_
     omega
    ·refine sI ?_
     intros;refine gc ?_;refine sI ?_
     (intros;try refine go_st ?_)
     refine go_ret (retQ_o L3 rfl (List.Sublist.refl _) hn2 ?_)
     exact⟨hgg.trans hg2,.inr ⟨t,htl,hr⟩⟩
   ·have htl:t=p.isr.length:=by have:=of_decide_eq_false k1;omega
    subst htl
    refine go_exit ?_
    refine sI ?_
    refine go_nil ?_
    exact⟨[],rfl,⟨G',L',[]⟩,ghost_sub (List.Sublist.refl _),hn',hgg,.inl hI'⟩
 ·rintro v h' ⟨G',L',rfl,hn',hgg,hr⟩
  exact⟨G',L',rfl,hgg,hn',hr⟩
theorem inStep_ok(p:Pt)(x:Nat)(G:Nat→Option Obj):
  FnD Tryz.prog 61 #[.pointer (some ⟨x,0,none⟩)] G (fun G' r=>∃ b,r=.func (.func 111) #[] #[.pointer (some ⟨b,0,none⟩)]∧cellG G' ⟨b,0,none⟩=some (.pointer (some ⟨x,0,none⟩))):=by
 refine F61.fnD (by simp) (go_of ?_)
 unfold c61
 intros;refine gr 0 0 ?_;refine sJ c61r0.eq_1 ?_
 intro b1 hb1
 (intros;try refine go_st ?_)
 refine go_gx gx_blk ?_
 rintro h' ⟨G1,rfl,hg1,hc1⟩
 have e1:=hc1 0 _ rfl
 rw[add_off]at e1
 intros;refine gr 3 4 ?_;refine sJ c61r1.eq_1 ?_
 intros;refine rV ?_;simp only[push_cast,Nat.reduceBEq]
 exact⟨b1,rfl,e1⟩
theorem F71:Fun Tryz.prog 71 60 v71 c71 o71:=Fun.mkA Tryz.func71 Tryz.ntmps71
def smW(r:Rp):Prop:=smL r.log.segs∧r.log.segs.length≤1000000∧r.eps.length≤1000000
theorem smW_of{l:List Rp}(h:∀ r∈l,smR r):∀ r∈l,smW r:=fun r hr=>by
 obtain⟨h1,h2,h3⟩:=h r hr
 exact⟨h1,by omega,by omega⟩
theorem at_own(p:Pt)(x:Nat)(A:Option Addr)(c:Nat)(B:Option Addr)(d:Nat)(ys zs:List Value)(n:Int)(h:H)(L:List Kx.Item)(hL:h.L.Perm (PtL p x A c B d ys zs++L))(hy:Cells IE 1 p.isr ys)(hz:Cells (RE h.G) 7 p.reps zs)(hn:I64 n)(hid:okIds p.reps):
  CallsH Tryz.prog 51 #[.pointer (some ⟨x,0,none⟩),.int .i64 n] h fun r h'=>r=.pointer (ptrR B (atR p.reps n))∧h'=h :=
 callsH_lentp noRegs_pt F51.enters hL (lent_pt hy hz) fun G' hg hp=>at_ok p x A c B d n G' hp hn hid L h.D
theorem nextB_i:∀ (bs:List Batch) (nx:Int),(0≤nx∧nx≤1099511627777)→(∀ x∈bs,errB x=0)→0≤nextB nx bs∧nextB nx bs≤1099511627777
 | [],nx,h,_=>h
 | b :: bs,nx,h,hb=>by
  have:=inO_iff.1 (err_in (hb b (.head _))).2
  exact nextB_i bs (b.last+1) (by omega) fun x hx=>hb x (.tail _ hx)
theorem EndL_i(l:Lg):0≤EndL l∧EndL l≤1099511627777:=by
 unfold EndL
 split
 ·rename_i h
  obtain⟨s,e1,e2,e3,e4,e5⟩:=log_last h
  have h1:=inO_iff.1 (inO_of (chkL_0 h).1)
  have h2:=inO_iff.1 (whole_iff.1 e5.1.1).2
  obtain⟨r,hs⟩:=scan_spec s
  have h3:=nextB_i (scanB s) s.base (by omega) hs.ok
  rw[e4]
  have h4:endB s=nextB s.base (scanB s):=rfl
  omega
 ·omega
theorem leastF_le(l:List Rp)(k:Nat)(r:Rp):∀ (is:List Int) (m:Int),leastF l k r m is≤m
 | [],m=>Int.le_refl _
 | n :: is,m=>by
  have h1:=leastF_le l k r is (stepF l k r m n)
  have h2:stepF l k r m n≤m:=by
   unfold stepF
   split
   ·split
    ·exact Int.le_refl _
    ·exact Int.min_le_left ..
   ·exact Int.le_refl _
  exact Int.le_trans h1 h2
theorem ptL_set(p:Pt)(k:Nat)(y:Rp)(x:Nat)(A:Option Addr)(c:Nat)(B:Option Addr)(d:Nat)(ys zs:List Value):PtL (setR p k y) x A c B d ys zs=PtL p x A c B d ys zs:=by
 simp[PtL,cellT,setR]
theorem EMeetS(a b:List Ep)(ae be:Int)(va vb:Value)(G:Nat→Option Obj)(ha:SEp G va a)(hb:SEp G vb b)(hla:a.length≤1000000)(hlb:b.length≤1000000):
  FnS Tryz.prog 126 #[va,.int .i64 ae,vb,.int .i64 be] G (.int .i64 (meetE a b ae be)):=fun L D=>(EMeet_ok a b ae be va vb G ha hb hla hlb L D).mono fun r h' ⟨⟨m,h1,h2⟩,h3⟩=>⟨by rw[h1,meetE_is h2],h3⟩
theorem rep_ld{G:Nat→Option Obj}{l:List Rp}{g d:Nat}{k:Nat}{r:Rp}(h:SlV G (RE G) 7 (.slice (some ⟨g,0,none⟩) l.length d) l)(hr:l[k]?=some r):
  ∃ A c B d,RE G r (cellP r A c B d)∧(∀ L D,LdN ⟨G,L,D⟩ (.pointer (some ⟨g,k * 7,none⟩)) (some 7) (.agg (cellP r A c B d).toArray))∧∀ L D o u,(cellP r A c B d)[o]?=some u→LdN ⟨G,L,D⟩ (.pointer (some ⟨g,k * 7+o,none⟩)) none u:=by
 obtain⟨A0,d0,he,-,-,hA⟩:=h
 cases he
 obtain⟨a,cs,ha,h1,h2,h4⟩:=hA k r hr
 cases ha
 have h4:∀ (j:Nat) (u:Value),cs[j]?=some u→cellG G ⟨g,k * 7+j,none⟩=some u:=fun j u hu=>by have:=h4 j u hu;rwa [add_mk]at this
 have h20:=h2
 obtain⟨A,c,B,d,rfl,-⟩:=h2
 exact⟨A,c,B,d,h20,fun L D=>⟨_,_,rfl,rfl,h1,fun j u hu=>by rw[add_off];exact .g (h4 j u hu)⟩,fun L D o u hu=>⟨_,rfl,.g (h4 o u hu)⟩⟩
theorem foldl_at{α β:Type}(f:β→α→β)(b:β){l:List α}{k:Nat}{x:α}(h:l[k]?=some x):(l.take (k+1)).foldl f b=f ((l.take k).foldl f b) x:=by
 rw[List.take_add_one,h]
 simp
theorem raise_ok(p:Pt)(x:Nat)(A:Option Addr)(c:Nat)(B:Option Addr)(d:Nat)(ys zs:List Value)(G:Nat→Option Obj)(hy:Cells IE 1 p.isr ys)(hz:Cells (RE G) 7 p.reps zs)(hid:okIds p.reps)(hin:∀ n∈p.isr,n∈idsR p.reps)(hsm:∀ r∈p.reps,smW r)(hI:I64P p):
  FnO Tryz.prog 71 #[.pointer (some ⟨x,0,none⟩)] G (PtL p x A c B d ys zs) (fun G' L' r=>r=.tuple #[]∧∃ zs',L'=PtL (raiseP p) x A c B d ys zs'∧Cells (RE G') 7 (raiseP p).reps zs'):=by
 refine F71.fnO (by simp) noRegs_pt (go_of ?_)
 unfold c71
 intros;refine gr 5 12 ?_;refine sJ c71r0.eq_1 ?_
 refine⟨_,ldN_blk (cs:=cellT p A c B d) (.head _) rfl,?_⟩
 refine sI ?_
 refine(at_own p x A c B d ys zs p.leader _ [] (by simp) hy hz hI.2.1 hid).mono ?_
 rintro _ _ ⟨rfl,rfl⟩
 refine sI ?_
 intro b2 hb2
 refine stX_blk [] _ rfl (by simp) ⟨rfl,rfl⟩ ?_
 refine sI ?_
 intros;try refine go_seq ?_
 have hsame:raiseP p=p→∀ e L,go none Tryz.prog 60 v71.1 v71.2 (retQ o71 fun v h=>v=.tuple #[]∧∃ zs',h.L=PtL (raiseP p) x A c B d ys zs'∧Cells (RE h.G) 7 (raiseP p).reps zs') (.s .ret :: L) e ⟨G,.blk b2 [.pointer (ptrR B (atR p.reps p.leader))] :: PtL p x A c B d ys zs,[]⟩:=fun hr e L=>by
  refine go_ret (retQ_o (PtL p x A c B d ys zs) rfl (.cons _ (List.Sublist.refl _)) noRegs_pt ⟨rfl,zs,?_,?_⟩)
  ·rw[hr]
  ·rw[hr];exact hz
 intros;refine gr 12 21 ?_;refine sJ c71r1.eq_1 ?_
 refine⟨_,ldN_blk (cs:=cellT p A c B d) (.tail _ (.head _)) rfl,?_⟩
 refine sI ?_
 refine gd (fun k1=>?_) (fun k1=>?_)
 ·have k1:=of_decide_eq_true k1
  refine sI ?_
  intros;refine gc ?_;refine sI ?_
  exact hsame (by unfold raiseP;rw[if_pos k1]) _ _
 have k1:=of_decide_eq_false k1
 refine sI ?_
 refine⟨_,ldN_blk (.head _) rfl,?_⟩
 refine sJ @eqA_n ?_
 cases hk:atR p.reps p.leader with
 | none =>
  rw[hk]at hsame
  have hpt:ptrR B none=none:=rfl
  refine sJ @hpt ?_
  intros;refine gc ?_;refine sI ?_
  refine hsame ?_ _ _
  unfold raiseP
  rw[if_neg k1,hk]
 | some k =>
  obtain⟨r,hr,-⟩:=atR_get hk
  clear hsame
  have hst:raiseP p=setR p k { r with high:=max r.high (leastF p.reps k r (EndL r.log) p.isr) }:=by
   unfold raiseP
   rw[if_neg k1,hk]
   dsimp only
   rw[hr]
   rfl
  rw[hst]
  clear hst
  have hkl:=(List.getElem?_eq_some_iff.1 hr).1
  intros
  refine go_gx (gx_know (.tail _ (.tail _ (.head _))) (by omega)) ?_
  rintro h' ⟨rfl,g,c9,he,-,-⟩
  cases he
  have hpt:ptrR (some ⟨g,0,none⟩) (some k)=some ⟨g,k * 7,none⟩:=congrArg some (add_mk _ _)
  rw[hpt]
  intros;refine gc ?_;refine sI ?_
  intros;refine gN ?_
  obtain⟨cs,hre,hcl,hld⟩:=hz.get hr
  have hre0:=hre
  have hsr:=hsm r (List.mem_of_getElem? hr)
  have hend:=pend_ok r cs G hre hsr.1 (by have:=hsr.2.1;omega)
  obtain⟨A1,c1,B1,d1,rfl,-⟩:=hre
  intros;refine gr 22 26 ?_;refine sJ c71r2.eq_1 ?_
  refine⟨_,ldN_blk (.head _) rfl,?_⟩
  refine sI ?_
  refine⟨_,ldN_rowN (.tail _ (.tail _ (.head _))) hcl hld,?_⟩
  unfold cellP at hend ⊢
  refine sI ?_
  refine(hend _ _).mono ?_;rintro _ _ ⟨rfl,rfl⟩;refine sI ?_
  intro b3 hb3
  refine stX_blk [] _ rfl (by simp) ⟨rfl,rfl⟩ ?_
  refine sI ?_
  intros;try refine go_seq ?_
  intros;try refine go_seq ?_
  intros;refine gr 26 27 ?_;refine sJ c71r3.eq_1 ?_
  refine(inStep_ok p x G _ _).mono ?_
  rintro rr h' ⟨G1,rfl,hg1,b4,rfl,hb4⟩
  refine sI ?_
  intros
  have hz1:=cells_imp hz fun _ _ h=>RE.le hg1 h
  refine go_ghost (h':=⟨G1,PtL p x A c (some ⟨g,0,none⟩) d ys zs++[.blk b3 [.int .i64 (EndL r.log)],.blk b2 [.pointer (some ⟨g,k * 7,none⟩)]],[]⟩) (ghost_perm (List.perm_append_comm (l₁:=[_,_]))) ?_
  refine go_lent noRegs_pt (lent_pt hy hz1) fun G2 hg2 hpt2=>?_
  refine go_blk ?_
  have hb42:=cellG_le hg2 hb4
  have hit:=inStep1_iter p x b4 A c _ d G2 hpt2 hid hb42
  refine go_rf (α:=Int) (fun t G' L'=>L'=[.blk b3 [.int .i64 (leastF p.reps k r (EndL r.log) (p.isr.take t))],.blk b2 [.pointer (some ⟨g,k * 7,none⟩)]]) (fun _ _ _ _=>False) (eE) F111.enters (noRegs_blk (noRegs_blk noRegs_nil)) (fun _ _ _ _ _ h=>h) hit (fun G x args h=>by cases h;rfl) rfl ?_ ?_ ?_
  ·rintro yl t n args G' L' hx hgl rfl rfl _
   obtain⟨i,y,hi,hiy,hyn⟩:=atR_of (hin n (List.mem_of_getElem? hx))
   have hpti:ptrR (some ⟨g,0,none⟩) (some i)=some ⟨g,i * 7,none⟩:=congrArg some (add_mk _ _)
   have hleast:leastF p.reps k r (EndL r.log) (p.isr.take (t+1))=stepF p.reps k r (leastF p.reps k r (EndL r.log) (p.isr.take t)) n:=foldl_at _ _ hx
   rw[hi,hpti]
   generalize leastF p.reps k r (EndL r.log) (p.isr.take t)=lt at *
   generalize leastF p.reps k r (EndL r.log) (p.isr.take (t+1))=lt' at *
   refine sI ?_
   intros;refine gr 0 0 ?_;refine sJ c71r4.eq_1 ?_
   intro bb
   refine go_nil (rnd_a ?_)
   intros;try refine go_seq ?_
   intros;refine gr 29 31 ?_;refine sJ c71r5.eq_1 ?_
   refine⟨_,ldN_blk (.tail _ (.head _)) rfl,?_⟩
   refine sJ @eqA_t ?_
   intros;refine gc ?_;refine sI ?_
   refine gb (fun k2=>?_) (fun k2=>?_)
   ·have k2:¬ i=k:=fun h=>by subst h;simp at k2
    have hstep:lt'=min lt (meetE y.eps r.eps (EndL y.log) (EndL r.log)):=by
     rw[hleast]
     unfold stepF
     rw[hi]
     dsimp only
     rw[if_neg k2,hiy]
     rfl
    have hsv:=(hpt2.le hgl).2.2
    have hsy:=hsm y (List.mem_of_getElem? hiy)
    obtain⟨A2,c2,B2,d2,hre2,hl2,hf2⟩:=rep_ld hsv hiy
    obtain⟨A3,c3,B3,d3,hre3,hl3,hf3⟩:=rep_ld hsv hr
    have hendy:=pend_ok y _ G' hre2 hsy.1 (by have:=hsy.2.1;omega)
    have hendr:=pend_ok r _ G' hre3 hsr.1 (by have:=hsr.2.1;omega)
    have hmeet:FnS Tryz.prog 126 #[.slice B2 y.eps.length d2,.int .i64 (EndL y.log),.slice B3 r.eps.length d3,.int .i64 (EndL r.log)] G' (.int .i64 (meetE y.eps r.eps (EndL y.log) (EndL r.log))):=by
     obtain⟨_,_,_,_,he2,_,hs2,_⟩:=hre2
     obtain⟨_,_,_,_,he3,_,hs3,_⟩:=hre3
     unfold cellP at he2 he3
     cases he2
     cases he3
     exact EMeetS _ _ _ _ _ _ _ hs2 hs3 (by have:=hsy.2.2;omega) (by have:=hsr.2.2;omega)
    unfold cellP at hendy hendr hl2 hl3
    (intros;try refine go_st ?_);refine go_y _ (List.Sublist.refl _) (by decide) ?_;refine sJ c71r6.eq_1 ?_
    refine⟨_,ldN_blk (.head _) rfl,?_⟩
    refine sI ?_
    refine⟨_,hf2 _ _ 5 _ rfl,?_⟩
    refine sI ?_
    refine⟨_,hl2 _ _,?_⟩
    refine sI ?_
    refine⟨_,ldN_blk (.tail _ (.head _)) rfl,?_⟩
    refine sI ?_
    refine⟨_,hf3 _ _ 5 _ rfl,?_⟩
    refine sI ?_
    refine⟨_,ldN_blk (.tail _ (.head _)) rfl,?_⟩
    refine sI ?_
    refine⟨_,hl3 _ _,?_⟩
    refine sI ?_
    refine(hendy _ _).mono ?_;rintro _ _ ⟨rfl,rfl⟩;refine sI ?_
    refine(hendr _ _).mono ?_;rintro _ _ ⟨rfl,rfl⟩;refine sI ?_
    refine(hmeet _ _).mono ?_;rintro _ _ ⟨rfl,rfl⟩;refine sI ?_
    rw[← hstep]
    refine sJ c71r7.eq_1 ?_
    refine stX_blk [] _ rfl (by simp) ⟨rfl,rfl⟩ ?_
    refine sI ?_
    intros;refine gN ?_
    refine go_nil (rnd_n _ (List.Sublist.refl _) (noRegs_blk (noRegs_blk noRegs_nil)) rfl)
   ·have k2:i=k:=by simp at k2;omega
    subst k2
    have hstep:lt'=lt:=by
     rw[hleast]
     unfold stepF
     rw[hi]
     dsimp only
     rw[if_pos rfl]
    subst hstep
    intros;refine gN ?_
    refine go_nil (rnd_n _ (List.Sublist.refl _) (noRegs_blk (noRegs_blk noRegs_nil)) rfl)
  ·rintro G' L' dd hgl rfl _
   refine go_b ?_
   refine go_nil ⟨_,_,_,rfl,?_⟩
   rw[List.take_length]
   have hlt:=leastF_le p.reps k r p.isr (EndL r.log)
   have hel:=EndL_i r.log
   generalize leastF p.reps k r (EndL r.log) p.isr=lt at *
   have hrow:Item.row (.slice (some ⟨g,0,none⟩) p.reps.length d) 50 7 p.reps.length zs∈PtL p x A c (some ⟨g,0,none⟩) d ys zs++[.blk b3 [.int .i64 lt],.blk b2 [.pointer (some ⟨g,k * 7,none⟩)]]:=.tail _ (.head _)
   have hz6:=hld 6 _ rfl
   refine(?_:go none Tryz.prog 60 v71.1 v71.2 _ [.s (SC.rgT c71r8 c71r9)] _ _)
   (intros;try refine go_st ?_);refine go_t (by decide) ?_;refine sJ c71r8.eq_1 ?_
   refine⟨_,ldN_blk (.tail _ (.tail _ (.tail _ (.tail _ (.head _))))) rfl,?_⟩
   refine sI ?_
   refine⟨_,ldN_blk (.tail _ (.tail _ (.tail _ (.tail _ (.head _))))) rfl,?_⟩
   refine sI ?_
   refine⟨_,ldN_row hrow hz6,?_⟩
   refine sI ?_
   refine⟨_,ldN_blk (.tail _ (.tail _ (.tail _ (.head _)))) rfl,?_⟩
   refine sJ c71r9.eq_1 ?_
   refine stX_row [_] _ rfl (by simp;have:=hz.len;omega) ⟨rfl,rfl⟩ ?_
   refine sI ?_
   refine go_nil ⟨[],rfl,⟨G1,PtL (setR p k { r with high:=max r.high lt }) x A c (some ⟨g,0,none⟩) d ys (splice zs (k * 7+6) [.int .i64 (max r.high lt)]),[]⟩,?_,noRegs_pt,rfl,_,rfl,?_⟩
   ·rw[ptL_set]
    exact ghost_sub (List.sublist_append_left _ _)
   ·refine Cells.setF hz1 hr (by simp) fun cs h hl=>?_
    obtain⟨A5,c5,B5,d5,rfl,q1,q2,q3,q4,q5⟩:=h
    exact⟨A5,c5,B5,d5,rfl,q1,q2,q3,q4,by unfold I64 at q5 ⊢;show _≤max r.high lt∧max r.high lt≤_;omega⟩
  ·rintro ex i G' L' d _ _ h
   exact h.elim
theorem F48:Fun Tryz.prog 48 8 v48 c48 o48:=Fun.mkA Tryz.func48 Tryz.ntmps48
theorem F116:Fun Tryz.prog 116 8 v116 c116 o116:=Fun.mkA Tryz.func116 Tryz.ntmps116
theorem F65:Fun Tryz.prog 65 37 v65 c65 o65:=Fun.mkA Tryz.func65 Tryz.ntmps65
theorem F80:Fun Tryz.prog 80 13 v80 c80 o80:=Fun.mkA Tryz.func80 Tryz.ntmps80
theorem F134:Fun Tryz.prog 134 15 v134 c134 o134:=Fun.mkA Tryz.func134 Tryz.ntmps134
theorem CloneI_ok(l:List Int)(v:Value)(G:Nat→Option Obj)(hl:SlV G IE 1 v l)(hb:l.length≤100000):FnO Tryz.prog 48 #[v] G [] (fun _ L' r=>OwnL IE 3 1 l L' r):=by
 refine F48.fnO (by simp) noRegs_nil (go_of ?_)
 have hl0:=hl
 obtain⟨A,c,rfl,hc,hm,hA⟩:=hl
 unfold c48
 intros;refine gr 0 0 ?_;refine sJ c48r0.eq_1 ?_
 intros;refine gr 3 4 ?_;refine sJ c48r1.eq_1 ?_
 intros;refine gc ?_;refine sI ?_
 refine gb (fun ht=>?_) (fun ht=>?_)
 ·intros;refine gr 0 0 ?_;refine sJ c48r2.eq_1 ?_
  (intros;try refine go_st ?_)
  have hA0:l=[]:=by
   match l,hA with
   | [],_=>rfl
   | x :: xs,hA=>obtain⟨a,_,ha,_⟩:=hA 0 x rfl;subst ha;cases ht
  subst hA0
  refine go_ghost (ghost_nil none 3 1) ?_
  refine go_ret (retQ_o _ rfl (List.Sublist.refl _) (noRegs_row noRegs_nil) ?_)
  exact⟨[],.nil,rfl⟩
 ·intros;refine gN ?_
  intros;refine gr 5 8 ?_;refine sJ c48r3.eq_1 ?_
  intro b hb'
  refine apX_v (.inr ⟨⟨_,rfl⟩,rfl,rfl,rfl,rfl⟩) hl0 rfl IE1 ⟨by omega,by unfold maxLen;omega⟩ fun ys A c hc=>?_
  simp only[Nat.zero_add]
  refine sI ?_
  (intros;try refine go_st ?_)
  refine go_ret (retQ_o _ rfl (List.Sublist.refl _) (noRegs_row noRegs_nil) ?_)
  exact⟨ys,hc,rfl⟩
theorem CloneRp_ok(l:List Rp)(v:Value)(G:Nat→Option Obj)(hl:SlV G (RE G) 7 v l)(hb:l.length≤100000):FnO Tryz.prog 116 #[v] G [] (fun _ L' r=>OwnL (RE G) 50 7 l L' r):=by
 refine F116.fnO (by simp) noRegs_nil (go_of ?_)
 have hl0:=hl
 obtain⟨A,c,rfl,hc,hm,hA⟩:=hl
 unfold c116
 intros;refine gr 0 0 ?_;refine sJ c116r0.eq_1 ?_
 intros;refine gr 3 4 ?_;refine sJ c116r1.eq_1 ?_
 intros;refine gc ?_;refine sI ?_
 refine gb (fun ht=>?_) (fun ht=>?_)
 ·intros;refine gr 0 0 ?_;refine sJ c116r2.eq_1 ?_
  (intros;try refine go_st ?_)
  have hA0:l=[]:=by
   match l,hA with
   | [],_=>rfl
   | x :: xs,hA=>obtain⟨a,_,ha,_⟩:=hA 0 x rfl;subst ha;cases ht
  subst hA0
  refine go_ghost (ghost_nil none 50 7) ?_
  refine go_ret (retQ_o _ rfl (List.Sublist.refl _) (noRegs_row noRegs_nil) ?_)
  exact⟨[],.nil,rfl⟩
 ·intros;refine gN ?_
  intros;refine gr 5 8 ?_;refine sJ c116r3.eq_1 ?_
  intro b hb'
  refine apX_v (.inr ⟨⟨_,rfl⟩,rfl,rfl,rfl,rfl⟩) hl0 rfl RE1 ⟨by omega,by unfold maxLen;omega⟩ fun ys A c hc=>?_
  simp only[Nat.zero_add]
  refine sI ?_
  (intros;try refine go_st ?_)
  refine go_ret (retQ_o _ rfl (List.Sublist.refl _) (noRegs_row noRegs_nil) ?_)
  exact⟨ys,hc,rfl⟩
def ChgR(q:Pt × Int)(x:Nat)(CE:List Kx.Item→Prop)(G':Nat→Option Obj)(L':List Kx.Item)(r:Value):Prop :=
 r=.int .i64 q.2∧∃ K C',L'=K++C'∧CE C'∧(q.2≠0→K=[])∧(q.2=0→∃ A c B d ys zs,K=PtL q.1 x A c B d ys zs∧Cells IE 1 q.1.isr ys∧Cells (RE G') 7 q.1.reps zs∧I64P q.1)
def Does(G0:Nat→Option Obj)(g:Nat)(cap:Array Value)(p:Pt)(q:Pt × Int)(C0:List Kx.Item)(CE:List Kx.Item→Prop):Prop :=
 ∀ G x A c B d ys zs,Gle G0 G→Cells IE 1 p.isr ys→Cells (RE G) 7 p.reps zs→FnO Tryz.prog g (#[.pointer (some ⟨x,0,none⟩)]++cap) G (PtL p x A c B d ys zs++C0) (fun G' L' r=>ChgR q x CE G' L' r)
noncomputable def chgQ(p:Pt)(q:Pt × Int):Pt × Int:=if chkPt p=0 then(if q.2=0 then(q.1,0)else(noneP,q.2))else(noneP,chkPt p)
def PtR(q:Pt × Int)(G:Nat→Option Obj)(r:Value):Prop:=∃ cs,r=.tuple #[.agg cs.toArray,.int .i64 q.2]∧PE G q.1 cs
theorem noneP_r(G:Nat→Option Obj)(e:Int):PtR (noneP,e) G (.tuple #[.agg #[.int .i64 0,.int .i64 0,.int .i64 0,.slice none 0 0,.slice none 0 0],.int .i64 e]) :=
 ⟨_,rfl,none,0,none,0,rfl,slN,slN,i64_0,i64_0,i64_0⟩
theorem ldN_blkA{h:H}{b o k:Nat}{cs us:List Value}(hm:Item.blk b cs∈h.L)(hl:us.length=k)(hv:∀ j u,us[j]?=some u→cs[o+j]?=some u):LdN h (.pointer (some ⟨b,o,none⟩)) (some k) (.agg us.toArray) :=
 ⟨_,us,rfl,rfl,hl,fun j u hu=>by rw[add_off];exact .blk hm (hv j u hu)⟩
theorem change_ok(p:Pt)(cs:List Value)(g:Nat)(cap:Array Value)(q:Pt × Int)(C0:List Kx.Item)(CE:List Kx.Item→Prop)(G:Nat→Option Obj)(hp:PE G p cs)(hsm:smP p)(hn0:NoRegs C0)(hCE:∀ C,CE C→NoRegs C)
  (hdo:okP p→Does G g cap p q C0 CE) :
  FnO Tryz.prog 65 #[.agg cs.toArray,.func (.func g) #[] cap] G C0 (fun G' L' r=>PtR (chgQ p q) G' r∧NoRegs L'∧(CE L'∨(chkPt p≠0∧L'=C0))):=by
 have hchk:=PCheck_ok p cs G hp hsm
 have hp0:=hp
 obtain⟨A,c,B,d,rfl,hI,hR,hi1,hi2,hi3⟩:=hp
 have h2:=rmR_no (s:=2) hn0
 have h4:=rmR_no (s:=4) hn0
 refine F65.fnO (by simp) hn0 (go_of ?_)
 unfold c65
 unfold cellT at hchk hp0 ⊢
 intros;refine gr 0 0 ?_;refine sJ3 c65r0.eq_1 @h2 @h4 ?_
 intros;try refine go_seq ?_
 intros;try refine go_seq ?_
 intros;refine gr 9 11 ?_;refine sJ c65r1.eq_1 ?_
 refine(hchk _ _).mono ?_;rintro _ _ ⟨rfl,rfl⟩;refine sI ?_
 intros;try refine go_seq ?_
 intros;refine gr 11 12 ?_;refine sJ c65r2.eq_1 ?_
 intros;refine gc ?_;refine sI ?_
 refine gb (fun k1=>?_) (fun k1=>?_)
 ·have k1:=of_decide_eq_true k1
  intros;refine gr 13 15 ?_;refine sJ c65r3.eq_1 ?_
  intros
  refine go_ret (retQ_o C0 rfl (.cons _ (.cons _ (List.Sublist.refl _))) hn0 ⟨?_,hn0,.inr ⟨k1,rfl⟩⟩)
  rw[chgQ,if_neg k1]
  exact noneP_r _ _
 have k1:chkPt p=0:=by simpa using k1
 have hok:=chkPt_0 k1
 obtain⟨hs1,hs2,hs3⟩:=hsm
 intros;refine gN ?_
 intros;try refine go_seq ?_
 have hcr:=CloneRp_ok p.reps _ G hR (by omega)
 (intros;try refine go_st ?_);refine go_y _ (List.Sublist.refl _) (by decide) ?_;refine sJ c65r4.eq_1 ?_
 refine(ownN_sl hcr _ _).mono ?_
 rintro r h' ⟨G1,L',rfl,hg1,B1,d1,zs,rfl,-,hzs,rfl⟩
 refine sI ?_
 refine⟨grow_L hg1 (.cons _ (List.Sublist.refl _)),?_⟩
 refine(ownN_sl (CloneI_ok p.isr _ G1 (hI.le (E':=IE) hg1 fun _ _ h=>h) (by omega)) _ _).mono ?_
 rintro r h' ⟨G2,L',rfl,hg2,A2,c2,ys,rfl,-,hys,rfl⟩
 have hg02:=hg1.trans hg2
 refine sI ?_
 refine⟨grow_L hg02 (.cons _ (.cons _ (List.Sublist.refl _))),?_⟩
 refine sJ c65r5.eq_1 ?_
 intros;try refine go_seq ?_
 intros;refine gr 23 26 ?_;refine sJ c65r6.eq_1 ?_
 intro x hx
 refine sI ?_
 have hz2:=cells_imp hzs fun _ _ h=>RE.le hg02 h
 have hfn:=hdo hok G2 x A2 c2 B1 d1 ys zs hg02 hys hz2
 intros;try refine go_seq ?_
 intros;try refine go_seq ?_
 refine go_ghost (h':=⟨G2,(PtL p x A2 c2 B1 d1 ys zs++C0)++[.reg 4 [.int .i64 0,.int .i64 0,.int .i64 0,.slice none 0 0,.slice none 0 0],.reg 2 [.int .i64 p.epoch,.int .i64 p.leader,.int .i64 p.least,.slice A2 p.isr.length c2,.slice B1 p.reps.length d1]],[]⟩) (ghost_perm (.cons _ ((List.Perm.swap _ _ _).trans (.cons _ (.cons _ (List.perm_append_comm (l₁:=[_,_]) (l₂:=C0))))))) ?_
 intros;refine gr 26 29 ?_;refine sJ c65r7.eq_1 ?_
 refine .inl ⟨g,cap,rfl,?_⟩
 refine(hfn _ _).mono ?_
 rintro r h' ⟨G3,L3,rfl,hg3,rfl,K,C',rfl,hce,hk1,hk2⟩
 have hnc:=hCE C' hce
 refine sI ?_
 intros
 refine go_ghost (h':=⟨G3,[.reg 4 [.int .i64 0,.int .i64 0,.int .i64 0,.slice none 0 0,.slice none 0 0],.reg 2 [.int .i64 p.epoch,.int .i64 p.leader,.int .i64 p.least,.slice A2 p.isr.length c2,.slice B1 p.reps.length d1]]++(K++C'),[]⟩) (ghost_perm List.perm_append_comm) ?_
 intros;try refine go_seq ?_
 intros;refine gr 29 30 ?_;refine sJ c65r8.eq_1 ?_
 intros;refine gc ?_;refine sI ?_
 refine gb (fun k2=>?_) (fun k2=>?_)
 ·have k2:=of_decide_eq_true k2
  have:=hk1 k2
  subst this
  intros;refine gr 31 33 ?_;refine sJ c65r9.eq_1 ?_
  intros
  refine go_ret (retQ_o C' rfl (.cons _ (.cons _ (List.Sublist.refl _))) hnc ⟨?_,hnc,.inl hce⟩)
  rw[chgQ,if_pos k1,if_neg k2]
  exact noneP_r _ _
 have k2:q.2=0:=by simpa using k2
 obtain⟨A4,c4,B4,d4,ys4,zs4,rfl,hy4,hz4,hi4⟩:=hk2 k2
 intros;refine gN ?_
 intros;try refine go_seq ?_
 refine go_gx (gx_slv_at [_,_,_] _ (by decide) hz4) ?_
 rintro h' ⟨G4,rfl,hg4,hv4⟩
 refine go_gx (gx_slv_at [_,_,_] _ (by decide) hy4) ?_
 rintro h' ⟨G5,rfl,hg5,hv5⟩
 intros;refine gr 33 37 ?_;refine sJ c65r10.eq_1 ?_
 refine⟨_,ldN_blkA (cs:=cellT q.1 A4 c4 B4 d4) (us:=cellT q.1 A4 c4 B4 d4) (.tail _ (.tail _ (.head _))) rfl (fun j u h=>by rw[Nat.zero_add];exact h),?_⟩
 unfold cellT
 refine sI ?_
 intros
 refine go_ret (retQ_o C' rfl (.cons _ (.cons _ (.cons _ (List.Sublist.refl _)))) hnc ⟨?_,hnc,.inl hce⟩)
 rw[chgQ,if_pos k1,if_pos k2]
 exact⟨_,rfl,A4,c4,B4,d4,rfl,hv5,SlR.le hg5 (hv4.le (.refl _) fun _ _ h=>RE.le hg4 h),hi4⟩
noncomputable def ofQ(p:Pt)(n:Int)(f:Nat→Rp→Pt × Int):Pt × Int :=
 match atR p.reps n with
 | none=>(p,1)
 | some k=>match p.reps[k]? with
  | none=>(p,1)
  | some r=>f k r
theorem ofP_eq(p:Pt)(n:Int)(f:Pt→Nat→Rp→Pt × Int):ofP p n f=chgQ p (ofQ p n (f p)):=rfl
theorem ofQ_0{p:Pt}{n:Int}(f:Nat→Rp→Pt × Int)(h:atR p.reps n=none):ofQ p n f=(p,1):=by unfold ofQ;rw[h]
theorem ofQ_1{p:Pt}{n:Int}(f:Nat→Rp→Pt × Int){k:Nat}{r:Rp}(h:atR p.reps n=some k)(hr:p.reps[k]?=some r):ofQ p n f=f k r:=by
 unfold ofQ
 rw[h]
 dsimp only
 rw[hr]
def DoesR(G0:Nat→Option Obj)(g:Nat)(cap:Array Value)(p:Pt)(k:Nat)(q:Pt × Int):Prop :=
 ∀ G x A c ga d ys zs,Gle G0 G→Cells IE 1 p.isr ys→Cells (RE G) 7 p.reps zs→FnO Tryz.prog g (#[.pointer (some ⟨x,0,none⟩),.pointer (some ⟨ga,k * 7,none⟩)]++cap) G (PtL p x A c (some ⟨ga,0,none⟩) d ys zs) (fun G' L' r=>ChgR q x (· = []) G' L' r)
theorem okIds_of{p:Pt}(h:okP p):okIds p.reps:=⟨h.1.2.1.2.2,fun r hr=>(h.1.2.2.2.2 r hr).1.1⟩
theorem of1_ok(p:Pt)(n:Int)(g:Nat)(cap:Array Value)(f:Nat→Rp→Pt × Int)(b4 b5:Nat)(G:Nat→Option Obj)(hok:okP p)(hn:I64 n)(h4:cellG G ⟨b4,0,none⟩=some (.int .i64 n))(h5:cellG G ⟨b5,0,none⟩=some (.func (.func g) #[] cap))
  (hdo:∀ k r,atR p.reps n=some k→p.reps[k]?=some r→DoesR G g cap p k (f k r)):Does G 134 #[.pointer (some ⟨b4,0,none⟩),.pointer (some ⟨b5,0,none⟩)] p (ofQ p n f) [] (· = []):=by
 intro G1 x A c B d ys zs hg hy hz
 have h4:=cellG_le hg h4
 have h5:=cellG_le hg h5
 rw[List.append_nil]
 refine F134.fnO (by simp) noRegs_pt (go_of ?_)
 unfold c134
 intros;refine gr 0 0 ?_;refine sJ c134r0.eq_1 ?_
 intros;refine gr 6 9 ?_;refine sJ c134r1.eq_1 ?_
 refine⟨_,⟨_,rfl,.g h4⟩,?_⟩
 refine sI ?_
 refine(at_own p x A c B d ys zs n _ [] (by simp) hy hz hn (okIds_of hok)).mono ?_
 rintro _ _ ⟨rfl,rfl⟩
 refine sI ?_
 intros;try refine go_seq ?_
 cases hk:atR p.reps n with
 | none =>
  have hpt:ptrR B none=none:=rfl
  rw[hpt]
  intros;try refine go_seq ?_
  intros;refine gr 9 10 ?_;refine sJ2 c134r2.eq_1 @eqA_n ?_
  intros;refine gc ?_;refine sI ?_
  intros;refine gr 0 0 ?_;refine sJ c134r3.eq_1 ?_
  intros
  refine go_ret (retQ_o [] rfl (List.nil_sublist _) noRegs_nil ⟨?_,[],[],rfl,rfl,fun _=>rfl,fun h=>?_⟩)
  ·rw[ofQ_0 f hk]
   rfl
  ·rw[ofQ_0 f hk]at h
   cases h
 | some k =>
  obtain⟨r,hr,-⟩:=atR_get hk
  have hkl:=(List.getElem?_eq_some_iff.1 hr).1
  intros
  refine go_gx (gx_know (.tail _ (.head _)) (by omega)) ?_
  rintro h' ⟨rfl,ga,c9,he,-,-⟩
  cases he
  have hpt:ptrR (some ⟨ga,0,none⟩) (some k)=some ⟨ga,k * 7,none⟩:=congrArg some (add_mk _ _)
  rw[hpt]
  have hfn:=hdo k r hk hr G1 x A c ga d ys zs hg hy hz
  intros;try refine go_seq ?_
  intros;refine gr 9 10 ?_;refine sJ2 c134r2.eq_1 @eqA_n ?_
  intros;refine gc ?_;refine sI ?_
  intros;refine gN ?_
  intros;refine gr 11 15 ?_;refine sJ c134r4.eq_1 ?_
  refine⟨_,⟨_,rfl,.g h5⟩,?_⟩
  refine sI ?_
  refine .inl ⟨g,cap,rfl,?_⟩
  rw[← List.append_nil (PtL p x A c (some ⟨ga,0,none⟩) d ys zs)]
  refine(hfn _ _).mono ?_
  rintro r' h' ⟨G3,L3,rfl,hg3,rfl,K,C',rfl,rfl,hk1,hk2⟩
  rw[List.append_nil,List.append_nil]
  refine sI ?_
  intros
  have hnk:NoRegs K:=by
   by_cases k2:(f k r).2=0
   ·obtain⟨A4,c4,B4,d4,ys4,zs4,rfl,-⟩:=hk2 k2
    exact noRegs_pt
   ·rw[hk1 k2];exact noRegs_nil
  refine go_ret (retQ_o K rfl (List.Sublist.refl _) hnk ⟨?_,K,[],(List.append_nil K).symm,rfl,?_,?_⟩)
  ·rw[ofQ_1 f hk hr]
   rfl
  ·rw[ofQ_1 f hk hr]
   exact hk1
  ·rw[ofQ_1 f hk hr]
   exact hk2
theorem Does.le{G0 G1:Nat→Option Obj}(hg:Gle G0 G1){g:Nat}{cap:Array Value}{p:Pt}{q:Pt × Int}{C0:List Kx.Item}{CE:List Kx.Item→Prop}(h:Does G0 g cap p q C0 CE):Does G1 g cap p q C0 CE :=
 fun G x A c B d ys zs h1=>h G x A c B d ys zs (hg.trans h1)
theorem DoesR.le{G0 G1:Nat→Option Obj}(hg:Gle G0 G1){g:Nat}{cap:Array Value}{p:Pt}{k:Nat}{q:Pt × Int}(h:DoesR G0 g cap p k q):DoesR G1 g cap p k q :=
 fun G x A c ga d ys zs h1=>h G x A c ga d ys zs (hg.trans h1)
theorem of_ok(p:Pt)(cs:List Value)(n:Int)(g:Nat)(cap:Array Value)(f:Nat→Rp→Pt × Int)(G:Nat→Option Obj)(hp:PE G p cs)(hsm:smP p)(hn:I64 n)
  (hdo:okP p→∀ k r,atR p.reps n=some k→p.reps[k]?=some r→DoesR G g cap p k (f k r)) :
  FnD Tryz.prog 80 #[.agg cs.toArray,.int .i64 n,.func (.func g) #[] cap] G (PtR (chgQ p (ofQ p n f))):=by
 have hp0:=hp
 obtain⟨A,c,B,d,rfl,-⟩:=hp
 refine F80.fnD (by simp) (go_of ?_)
 unfold c80
 unfold cellT at hp0 ⊢
 intros;refine gr 0 0 ?_;refine sJ c80r0.eq_1 ?_
 intro b4 hb4 b5 hb5
 refine sI ?_
 intros
 refine go_gx (gx_blk_at [_] _) ?_
 rintro h' ⟨G1,rfl,hg1,f5⟩
 refine go_gx (gx_blk_at [_] _) ?_
 rintro h' ⟨G2,rfl,hg2,f4⟩
 have f5:=cellG_le hg2 (f5 0 _ rfl)
 have f4:=f4 0 _ rfl
 rw[add_off]at f4 f5
 have hg02:=hg1.trans hg2
 have hch:=change_ok p _ 134 #[.pointer (some ⟨b4,0,none⟩),.pointer (some ⟨b5,0,none⟩)] (ofQ p n f) [] (· = []) G2 (hp0.le hg02) hsm noRegs_nil (fun C h=>by rw[h];exact noRegs_nil) fun hok =>
  of1_ok p n g cap f b4 b5 G2 hok hn f4 f5 fun k r hk hr=>(hdo hok k r hk hr).le hg02
 intros;try refine go_seq ?_
 intros;refine gr 8 13 ?_;refine sJ c80r1.eq_1 ?_
 refine(hch _ _).mono ?_
 rintro r h' ⟨G3,L3,rfl,hg3,⟨cs3,rfl,hpe⟩,-,hL⟩
 have hL:L3=[]:=by
  rcases hL with h | ⟨-,h⟩ <;> exact h
 subst hL
 have hpe0:=hpe
 obtain⟨A3,c3,B3,d3,rfl,-⟩:=hpe
 unfold cellT at hpe0 ⊢
 refine sI ?_
 intros;refine rV ?_;simp only[push_cast,Nat.reduceBEq]
 exact⟨_,rfl,hpe0⟩
theorem F37:Fun Tryz.prog 37 12 v37 c37 o37:=Fun.mkA Tryz.func37 Tryz.ntmps37
theorem F91:Fun Tryz.prog 91 45 v91 c91 o91:=Fun.mkH Tryz.func91 Tryz.ntmps91 (by kernel_rfl) (by kernel_rfl) s91 q91
theorem raiseP_same(p:Pt):(raiseP p).epoch=p.epoch∧(raiseP p).leader=p.leader∧(raiseP p).least=p.least∧(raiseP p).isr=p.isr∧(raiseP p).reps.length=p.reps.length:=by
 unfold raiseP
 split
 ·exact⟨rfl,rfl,rfl,rfl,rfl⟩
 ·split
  ·exact⟨rfl,rfl,rfl,rfl,rfl⟩
  ·split
   ·exact⟨rfl,rfl,rfl,rfl,rfl⟩
   ·exact⟨rfl,rfl,rfl,rfl,List.length_set ..⟩
theorem raiseP_i{p:Pt}(h:I64P p):I64P (raiseP p):=by
 obtain⟨h1,h2,h3,-⟩:=raiseP_same p
 unfold I64P
 rw[h1,h2,h3]
 exact h
theorem chg_e{p:Pt}{e:Int}(x:Nat)(G:Nat→Option Obj)(h:e≠0):ChgR (p,e) x (· = []) G [] (.int .i64 e):=⟨rfl,[],[],rfl,rfl,fun _=>rfl,fun h2=>absurd h2 h⟩
theorem chg_0{p:Pt}{x:Nat}{G:Nat→Option Obj}{A:Option Addr}{c:Nat}{B:Option Addr}{d:Nat}{ys zs:List Value}(hy:Cells IE 1 p.isr ys)(hz:Cells (RE G) 7 p.reps zs)(hi:I64P p):
  ChgR (p,0) x (· = []) G (PtL p x A c B d ys zs) (.int .i64 0):=⟨rfl,_,[],(List.append_nil _).symm,rfl,fun h=>absurd rfl h,fun _=>⟨A,c,B,d,ys,zs,rfl,hy,hz,hi⟩⟩
theorem contains_own(l:List Int)(n:Int)(A:Option Addr)(c:Nat)(ys:List Value)(h:H)(L:List Kx.Item)(hL:h.L.Perm (.row (.slice A l.length c) 3 1 l.length ys :: L))(hy:Cells IE 1 l ys):
  CallsH Tryz.prog 58 #[.slice A l.length c,.int .i64 n] h fun r h'=>r=.bool (decide (n∈l))∧h'=h :=
 callsH_lentp (L1:=[_]) (M:=fun G=>SlV G IE 1 (.slice A l.length c) l) (noRegs_row noRegs_nil) F58.enters hL (lent_cons (M1:=fun G=>SlV G IE 1 (.slice A l.length c) l) (fun L=>gx_slv (by decide) hy) fun G' _ h=>lent_nil h) fun G' hg hp=>ContainsI_ok l n _ G' hp L h.D
theorem Elect1_ok(p:Pt)(n:Int)(b3 k:Nat)(r:Rp)(G:Nat→Option Obj)(hok:okP p)(hsm:smP p)(hI:I64P p)(hn:I64 n)(h3:cellG G ⟨b3,0,none⟩=some (.int .i64 n))(hr:p.reps[k]?=some r):
  DoesR G 91 #[.pointer (some ⟨b3,0,none⟩)] p k (electF n p k r):=by
 intro G1 x A c ga d ys zs hg hy hz
 have h3:=cellG_le hg h3
 obtain⟨cs,hre,hcl,hld⟩:=hz.get hr
 obtain⟨A1,c1,B1,d1,rfl,-⟩:=hre
 rw[show(#[.pointer (some ⟨x,0,none⟩),.pointer (some ⟨ga,k * 7,none⟩)]++#[.pointer (some ⟨b3,0,none⟩)]:Array Value)=#[.pointer (some ⟨x,0,none⟩),.pointer (some ⟨ga,k * 7,none⟩),.pointer (some ⟨b3,0,none⟩)]from rfl]
 refine F91.fnO (by simp) noRegs_pt (go_of ?_)
 unfold c91
 intros;refine gr 0 0 ?_;refine sJ c91r0.eq_1 ?_
 (intros;try refine go_st ?_)
 intros;refine gr 7 12 ?_;refine sJ c91r1.eq_1 ?_
 refine⟨_,ldN_row (.tail _ (.head _)) (hld 1 _ rfl),?_⟩
 refine sI ?_
 intros;refine gc ?_;refine sI ?_
 refine gb (fun k1=>?_) (fun k1=>?_)
 ·have k1:r.up=false:=by simpa using k1
  intros;refine gr 0 0 ?_;refine sJ c91r2.eq_1 ?_
  intros
  refine go_ret (retQ_o [] rfl (List.nil_sublist _) noRegs_nil ?_)
  rw[electF,if_pos k1]
  exact chg_e x _ (by decide)
 have k1:¬ r.up=false:=by simpa using k1
 intros;try refine go_seq ?_
 (intros;try refine go_st ?_);refine go_x _ (List.Sublist.refl _) (by decide) ?_;refine sJ c91r3.eq_1 ?_
 refine⟨_,ldN_blk (cs:=cellT p A c (some ⟨ga,0,none⟩) d) (.head _) rfl,?_⟩
 refine sI ?_
 refine⟨_,⟨_,rfl,.g h3⟩,?_⟩
 refine sI ?_
 refine(contains_own p.isr n A c ys _ _ (List.perm_append_comm (l₁:=[_,_]) (l₂:=[_])) hy).mono ?_;rintro _ _ ⟨rfl,rfl⟩;refine sI ?_
 intros;refine gc ?_;refine sI ?_
 refine gb (fun k2=>?_) (fun k2=>?_)
 ·have k2:n∉p.isr:=by simpa using k2
  intros;refine gr 0 0 ?_;refine sJ c91r4.eq_1 ?_
  intros
  refine go_ret (retQ_o [] rfl (List.nil_sublist _) noRegs_nil ?_)
  rw[electF,if_neg k1,if_pos k2]
  exact chg_e x _ (by decide)
 have k2:n∈p.isr:=by simpa using k2
 intros;try refine go_seq ?_
 intros;refine gr 22 28 ?_;refine sJ c91r5.eq_1 ?_
 refine⟨_,ldN_blk (cs:=cellT p A c (some ⟨ga,0,none⟩) d) (.head _) rfl,?_⟩
 refine sI ?_
 intros;refine gc ?_;refine sI ?_
 refine gb (fun k3=>?_) (fun k3=>?_)
 ·have k3:=of_decide_eq_true k3
  intros;refine gr 0 0 ?_;refine sJ c91r6.eq_1 ?_
  intros
  refine go_ret (retQ_o [] rfl (List.nil_sublist _) noRegs_nil ?_)
  rw[electF,if_neg k1,if_neg (fun h=>h k2),if_pos k3]
  exact chg_e x _ (by decide)
 have k3:=of_decide_eq_false k3
 have hep:0≤p.epoch∧p.epoch≤1048576:=by have:=hok.1.1;simpa [idI]using this
 have hw:IntKind.i64.wrap (p.epoch+1)=p.epoch+1:=by rw[w64_id] <;> omega
 have hq:electF n p k r=(raiseP { p with epoch:=p.epoch+1,leader:=n },0):=by rw[electF,if_neg k1,if_neg (fun h=>h k2),if_neg k3]
 rw[hq]
 have hi2:I64P { p with epoch:=p.epoch+1,leader:=n }:=⟨by unfold I64;show _≤p.epoch+1∧p.epoch+1≤_;omega,hn,hI.2.2⟩
 have hraise:=fun zs' hz'=>raise_ok { p with epoch:=p.epoch+1,leader:=n } x A c (some ⟨ga,0,none⟩) d ys zs' G1 hy hz' (okIds_of (p:=p) hok) hok.2.1.2 (smW_of hsm.1) hi2
 have hraise:=hraise zs hz
 generalize hp2:({ p with epoch:=p.epoch+1,leader:=n }:Pt)=p2 at *
 intros;refine gN ?_
 intros;try refine go_seq ?_
 refine go_cut (fun e h=>e 0=.pointer (some ⟨x,0,none⟩)∧h=⟨G1,PtL p2 x A c (some ⟨ga,0,none⟩) d ys zs,[]⟩) ?_ ?_
 ·(intros;try refine go_st ?_);refine go_z _ (List.nil_sublist _) (by decide) ?_;refine sJ c91r7.eq_1 ?_
  refine⟨?_,?_⟩
  ·refine⟨_,ldN_blk (cs:=cellT p A c (some ⟨ga,0,none⟩) d) (.head _) rfl,?_⟩
   refine sJ @hw ?_
   refine⟨grow_L (fun _ _ h=>h) (List.nil_sublist _),?_⟩
   refine sJ @hw ?_
   refine⟨?_,?_⟩
   ·refine⟨_,⟨_,rfl,.g h3⟩,?_⟩
    refine sJ @hw ?_
    refine⟨grow_L (fun _ _ h=>h) (List.nil_sublist _),?_⟩
    refine sJ @hw ?_
    refine stX_blk [] _ rfl (by simp[cellT,splice]) ⟨rfl,rfl⟩ ?_
    refine sJ @hw ?_
    refine⟨grow_L (fun _ _ h=>h) (List.nil_sublist _),?_⟩
    refine sJ @hw ?_
    refine stX_blk [] _ rfl (by simp[cellT,splice]) ⟨rfl,rfl⟩ ?_
    refine sJ @hw ?_
    refine⟨grow_L (fun _ _ h=>h) (List.nil_sublist _),?_⟩
    refine sJ @hw ?_
    exact go_l ⟨eE,by rw[← hp2];rfl⟩
   ·refine stX_blk [] _ rfl (by simp[cellT,splice]) ⟨rfl,rfl⟩ ?_
    refine sJ @hw ?_
    refine⟨grow_L (fun _ _ h=>h) (List.nil_sublist _),?_⟩
    refine sJ @hw ?_
    refine⟨_,⟨_,rfl,.g h3⟩,?_⟩
    refine sJ @hw ?_
    refine⟨grow_L (fun _ _ h=>h) (List.nil_sublist _),?_⟩
    refine sJ @hw ?_
    refine stX_blk [] _ rfl (by simp[cellT,splice]) ⟨rfl,rfl⟩ ?_
    refine sJ @hw ?_
    refine⟨grow_L (fun _ _ h=>h) (List.nil_sublist _),?_⟩
    refine sJ @hw ?_
    exact go_l ⟨eE,by rw[← hp2];rfl⟩
  ·refine⟨_,⟨_,rfl,.g h3⟩,?_⟩
   refine sJ @hw ?_
   refine⟨grow_L (fun _ _ h=>h) (List.nil_sublist _),?_⟩
   refine sJ @hw ?_
   refine⟨_,ldN_blk (cs:=cellT p A c (some ⟨ga,0,none⟩) d) (.head _) rfl,?_⟩
   refine sJ @hw ?_
   refine⟨grow_L (fun _ _ h=>h) (List.nil_sublist _),?_⟩
   refine sJ @hw ?_
   refine stX_blk [] _ rfl (by simp[cellT,splice]) ⟨rfl,rfl⟩ ?_
   refine sJ @hw ?_
   refine⟨grow_L (fun _ _ h=>h) (List.nil_sublist _),?_⟩
   refine sJ @hw ?_
   refine stX_blk [] _ rfl (by simp[cellT,splice]) ⟨rfl,rfl⟩ ?_
   refine sJ @hw ?_
   refine⟨grow_L (fun _ _ h=>h) (List.nil_sublist _),?_⟩
   refine sJ @hw ?_
   exact go_l ⟨eE,by rw[← hp2];rfl⟩
 rintro e h ⟨e0,rfl⟩
 refine go_keep [0] ?_
 refine sJ @e0 ?_
 intros;try refine go_seq ?_
 intros;refine gr 43 45 ?_;refine sJ c91r8.eq_1 ?_
 rw[← List.append_nil (PtL p2 x A c (some ⟨ga,0,none⟩) d ys zs)]
 refine(hraise _ _).mono ?_
 rintro r' h' ⟨G2,L',rfl,hg2,rfl,zs',rfl,hz'⟩
 rw[List.append_nil]
 refine sI ?_
 intros;try refine go_seq ?_
 intros;refine gr 0 0 ?_;refine sJ c91r9.eq_1 ?_
 intros
 refine go_ret (retQ_o _ rfl (List.Sublist.refl _) noRegs_pt (chg_0 ?_ hz' (raiseP_i hi2)))
 rw[(raiseP_same p2).2.2.2.1,← hp2]
 exact hy
theorem Elect_ok(p:Pt)(cs:List Value)(n:Int)(G:Nat→Option Obj)(hp:PE G p cs)(hsm:smP p)(hn:I64 n):FnD Tryz.prog 37 #[.agg cs.toArray,.int .i64 n] G (PtR (ofP p n (electF n))):=by
 have hp0:=hp
 obtain⟨A,c,B,d,rfl,-,-,hI⟩:=hp
 refine F37.fnD (by simp) (go_of ?_)
 unfold c37
 unfold cellT at hp0 ⊢
 intros;refine gr 0 0 ?_;refine sJ c37r0.eq_1 ?_
 intro b3 hb3
 refine sI ?_
 intros
 refine go_gx (gx_blk_at [_] _) ?_
 rintro h' ⟨G1,rfl,hg1,f3⟩
 have f3:=f3 0 _ rfl
 rw[add_off]at f3
 have hof:=of_ok p _ n 91 #[.pointer (some ⟨b3,0,none⟩)] (electF n p) G1 (hp0.le hg1) hsm hn fun hok k r _ hr=>Elect1_ok p n b3 k r G1 hok hsm hI hn f3 hr
 rw[← ofP_eq]at hof
 intros;refine gr 6 12 ?_;refine sJ c37r1.eq_1 ?_
 refine⟨_,⟨_,rfl,.g f3⟩,?_⟩
 refine sI ?_
 refine(hof _ _).mono ?_
 rintro r h' ⟨G2,rfl,hg2,cs2,rfl,hpe⟩
 have hpe0:=hpe
 obtain⟨A2,c2,B2,d2,rfl,-⟩:=hpe
 unfold cellT at hpe0 ⊢
 refine sI ?_
 intros;refine rV ?_;simp only[push_cast,Nat.reduceBEq]
 exact⟨_,rfl,hpe0⟩
theorem F140:Fun Tryz.prog 140 42 v140 c140 o140:=Fun.mkA Tryz.func140 Tryz.ntmps140
theorem F87:Fun Tryz.prog 87 15 v87 c87 o87:=Fun.mkA Tryz.func87 Tryz.ntmps87
theorem F141:Fun Tryz.prog 141 7 v141 c141 o141:=Fun.mkA Tryz.func141 Tryz.ntmps141
theorem F44:Fun Tryz.prog 44 12 v44 c44 o44:=Fun.mkA Tryz.func44 Tryz.ntmps44
theorem F102:Fun Tryz.prog 102 36 v102 c102 o102:=Fun.mkA Tryz.func102 Tryz.ntmps102
theorem ghost_cut{G:Nat→Option Obj}{L:List Kx.Item}{D:List Nat}{A:Option Addr}{n m c et sz:Nat}{ys:List Value}(hm:m≤n):Ghost ⟨G,.row (.slice A n c) et sz n ys :: L,D⟩ ⟨G,.row (.slice A m c) et sz m (ys.take (m * sz)) :: L,D⟩:=fun β w hs=>by
 have h:=sat_swap (L1:=[]) (it':=.row (.slice A m c) et sz m (ys.take (m * sz))) (w':=w) hs rfl rfl rfl (Nat.le_refl _) (fun _ _ _=>rfl) (by
   obtain⟨hl,hok⟩:=hs.l _ (List.mem_cons_self ..)
   have hms:m * sz≤n * sz:=Nat.mul_le_mul_right _ hm
   refine⟨by rw[List.length_take,hl];omega,?_⟩
   rcases hok with⟨A0,he,h0⟩ | ⟨g,cap,cur,he,h1,h2,h3,h4,h5,h6⟩
   · cases he
     exact .inl ⟨A, by have : m = 0 := by omega
                       subst this;rfl,by omega⟩
   · cases he
     refine .inr ⟨g,c,cur,rfl,h1,h2,by omega,h4,h5,?_⟩
     rw[← h6,List.take_take,Nat.min_eq_left hms]) (fun b hb=>.inl (by
   cases A <;> exact hb))
 exact⟨h.1,h.2,rfl,fun s cs hh=>⟨cs,by simpa using hh⟩⟩
theorem set_take{l:List Int}{i:Nat}{v:Int}(h:i < l.length):(l.set i v).take (i+1)=l.take i++[v]:=by
 rw[List.take_add_one,List.getElem?_set_self h]
 congr 1
 exact List.take_set_of_le (Nat.le_refl _)
theorem DeleteI_ok(l:List Int)(p:Int→Bool)(f:Nat)(cap:Array Value)(A:Option Addr)(c:Nat)(ys:List Value)(G:Nat→Option Obj)(hy:Cells IE 1 l ys)(hf:∀ G',Gle G G'→∀ s,s∈l→I64 s→FnS Tryz.prog f (#[.int .i64 s]++cap) G' (.bool (p s))):
  FnO Tryz.prog 140 #[.slice A l.length c,.func (.func f) #[] cap] G [.row (.slice A l.length c) 3 1 l.length ys] (fun _ L' r=>∃ A' c' ys',r=.slice A' (l.filter fun s=>!p s).length c'∧Cells IE 1 (l.filter fun s=>!p s) ys'∧L'=[.row r 3 1 (l.filter fun s=>!p s).length ys']):=by
 refine F140.fnO (by simp) (noRegs_row noRegs_nil) (go_of ?_)
 unfold c140
 intros;refine gr 0 0 ?_;refine sJ c140r0.eq_1 ?_
 intros;refine gr 8 11 ?_;refine sJ c140r1.eq_1 ?_
 refine(callsH_lentp (L1:=[_]) (L:=[]) (R:=fun r=>r=.int .i64 (firstI p l 0)) (M:=fun G=>SlV G IE 1 (.slice A l.length c) l) (noRegs_row noRegs_nil) F109.enters (List.Perm.refl _) (lent_cons (M1:=fun G=>SlV G IE 1 (.slice A l.length c) l) (fun L=>gx_slv (by decide) hy) fun G' _ h=>lent_nil h) fun G' hg hp=>IndexFI_ok l p f cap _ G' hp (hf G' hg) [] []).mono ?_
 rintro _ _ ⟨rfl,rfl⟩
 refine sI ?_
 intros;try refine go_seq ?_
 rcases firstI_spec p l 0 with⟨q1,q2⟩ | ⟨k,x,q1,q2,q3,q4⟩
 ·rw[q1]
  intros;try refine go_seq ?_
  have hd:decide ((-1:Int)=-1)=true:=by decide
  intros;refine gr 11 12 ?_;refine sJ2 c140r2.eq_1 @hd ?_
  intros;refine gc ?_;refine sI ?_
  have hfl:(l.filter fun s=>!p s)=l:=List.filter_eq_self.2 fun s hs=>by rw[q2 s hs];rfl
  intros;refine gr 13 14 ?_;refine sJ c140r3.eq_1 ?_
  intros
  refine go_ret (retQ_o _ rfl (List.Sublist.refl _) (noRegs_row noRegs_nil) ⟨A,c,ys,?_,?_,?_⟩)
  ·rw[hfl];rfl
  ·rw[hfl];exact hy
  ·rw[hfl];rfl
 rw[q1,Nat.zero_add]
 have hkl:=(List.getElem?_eq_some_iff.1 q2).1
 refine go_gx (gx_know (.head _) (by omega)) ?_
 rintro h' ⟨rfl,g,c9,he,hlc,hmx⟩
 cases he
 unfold maxLen at hmx
 have hd:decide ((k:Int)=-1)=false:=by simp
 have hw0:IntKind.i64.wrap ((k:Int)+1)=(k:Int)+1:=by rw[w64_id] <;> omega
 intros;try refine go_seq ?_
 intros;refine gr 11 12 ?_;refine sJ2 c140r2.eq_1 @hd ?_
 intros;refine gc ?_;refine sI ?_
 intros;refine gN ?_
 intros;try refine go_seq ?_
 intros;refine gr 14 16 ?_;refine sJ2 c140r4.eq_1 @hw0 ?_
 (intros;try refine go_st ?_)
 refine go_loop (fun e h=>∃ (i j:Nat) (cur:List Int) (ys':List Value),(i < j∧j≤l.length)∧(cur.length=l.length∧Cells IE 1 cur ys')∧(cur.take i=(l.take j).filter (fun s=>!p s)∧cur.drop j=l.drop j)∧e 5=.int .i64 i∧e 6=.int .i64 j∧e 0=.slice (some ⟨g,0,none⟩) l.length c∧e 1=.func (.func f) #[] cap∧h=⟨G,[.row (.slice (some ⟨g,0,none⟩) l.length c) 3 1 l.length ys'],[]⟩) (fun e h=>l.length - iv (e 6)) ?_ ?_
 ·refine⟨k,k+1,l,ys,⟨by omega,by omega⟩,⟨rfl,hy⟩,⟨?_,rfl⟩,eE,eE,eE,eE,rfl⟩
  rw[take_snoc' q2,List.filter_append,List.filter_eq_self.2 (fun s hs=>by rw[q4 s hs];rfl)]
  simp[q3]
 rintro e h ⟨i,j,cur,ys',⟨hij,hjn⟩,⟨hcl,hy'⟩,⟨ht,hdr⟩,e5,e6,e0,e1,rfl⟩
 refine go_keep [0,1,5,6] ?_
 refine sJ4 @e0 @e1 @e5 @e6 ?_
 intros;refine gr 16 19 ?_;refine sJ c140r5.eq_1 ?_
 intros;refine gc ?_;refine sI ?_
 refine gb (fun h1=>?_) (fun h1=>?_)
 ·have h1:j < l.length:=by have:=of_decide_eq_true h1;omega
  have hw:IntKind.i64.wrap ((j:Int)+1)=(j:Int)+1:=by rw[w64_id] <;> omega
  obtain⟨v,hv⟩:∃ v,l[j]?=some v:=⟨l[j],List.getElem?_eq_getElem h1⟩
  have hcv:cur[j]?=some v:=by
   have:(cur.drop j)[0]?=(l.drop j)[0]?:=by rw[hdr]
   simpa [List.getElem?_drop,hv]using this
  obtain⟨cs,⟨rfl,hvi⟩,-,hld⟩:=hy'.get hcv
  have hld:=hld 0 _ rfl
  rw[Nat.add_zero]at hld
  have hlj:ys'.length=l.length * 1:=by rw[hy'.len,hcl]
  have htk:=take_snoc' hv
  have hbk:∀ (cur2:List Int) (ys2:List Value) (i2:Nat) (e:Env),(i2 < j+1)→cur2.length=l.length→Cells IE 1 cur2 ys2→cur2.take i2=(l.take (j+1)).filter (fun s=>!p s)→cur2.drop (j+1)=l.drop (j+1)→e 5=.int .i64 i2→e 6=.int .i64 j→e 0=.slice (some ⟨g,0,none⟩) l.length c→e 1=.func (.func f) #[] cap →
    go none Tryz.prog 42 v140.1 v140.2 (retQ o140 fun v h=>∃ A' c' ys',v=.slice A' (l.filter fun s=>!p s).length c'∧Cells IE 1 (l.filter fun s=>!p s) ys'∧h.L=[.row v 3 1 (l.filter fun s=>!p s).length ys'])
    [Td.s (SC.reg false c140r10),Td.l fun e' h'=>(∃ (i j:Nat) (cur:List Int) (ys':List Value),(i < j∧j≤l.length)∧(cur.length=l.length∧Cells IE 1 cur ys')∧(cur.take i=(l.take j).filter (fun s=>!p s)∧cur.drop j=l.drop j)∧e' 5=.int .i64 i∧e' 6=.int .i64 j∧e' 0=.slice (some ⟨g,0,none⟩) l.length c∧e' 1=.func (.func f) #[] cap∧h'=⟨G,[.row (.slice (some ⟨g,0,none⟩) l.length c) 3 1 l.length ys'],[]⟩)∧l.length - iv (e' 6) < l.length - j,Td.b 0,Td.s ((SC.reg false c140r11).seq ((SC.reg false c140r12).seq SC.ret))] e ⟨G,[.row (.slice (some ⟨g,0,none⟩) l.length c) 3 1 l.length ys2],[]⟩:=fun cur2 ys2 i2 e a1 a2 a3 a4 a5 b5 b6 b0 b1=>by
   refine go_keep [0,1,5,6] ?_
   refine sJ4 @b0 @b1 @b5 @b6 ?_
   intros;refine gr 20 22 ?_;refine sJ2 c140r10.eq_1 @hw ?_
   (intros;try refine go_st ?_)
   refine go_l ⟨⟨i2,j+1,cur2,ys2,⟨a1,by omega⟩,⟨a2,a3⟩,⟨a4,a5⟩,eE,eE,eE,eE,rfl⟩,?_⟩
   refine sI ?_
   omega
  intros;refine gN ?_
  intros;refine gr 22 26 ?_;refine sJ c140r6.eq_1 ?_
  refine⟨by omega,_,rfl,?_⟩
  refine sJ @Nat.zero_add ?_
  refine⟨_,ldN_row (.head _) hld,?_⟩
  refine sI ?_
  intros;try refine go_seq ?_
  intros;refine gr 26 29 ?_;refine sJ c140r7.eq_1 ?_
  refine .inl ⟨f,cap,rfl,?_⟩
  refine(hf G (.refl G) v (List.mem_of_getElem? hv) hvi _ _).mono ?_;rintro _ _ ⟨rfl,rfl⟩;refine sI ?_
  intros;refine gc ?_;refine sI ?_
  refine gb (fun h2=>?_) (fun h2=>?_)
  ·have h2:p v=false:=by simpa using h2
   have hwi:IntKind.i64.wrap ((i:Int)+1)=(i:Int)+1:=by rw[w64_id] <;> omega
   intros;try refine go_seq ?_
   intros;refine gr 30 34 ?_;refine sJ c140r8.eq_1 ?_
   refine⟨by omega,_,rfl,?_⟩
   refine sJ @Nat.zero_add ?_
   refine stX_row [] _ rfl (by simp;omega) ⟨rfl,rfl⟩ ?_
   refine sI ?_
   intros;refine gr 34 36 ?_;refine sJ2 c140r9.eq_1 @hwi ?_
   intros;refine gN ?_
   refine hbk (cur.set i v) _ (i+1) _ (by omega) (by rw[List.length_set,hcl]) (Cells.set hy' (by omega) ⟨rfl,hvi⟩ rfl) ?_ ?_ (by((refine sI ?_;try with_reducible exact True.intro))) (by((refine sI ?_;try with_reducible exact True.intro))) (by((refine sI ?_;try with_reducible exact True.intro))) (by((refine sI ?_;try with_reducible exact True.intro)))
   ·rw[set_take (by omega),ht,htk,List.filter_append]
    simp[h2]
   ·rw[List.drop_set_of_lt (by omega)]
    have:(cur.drop j).drop 1=(l.drop j).drop 1:=by rw[hdr]
    simpa [List.drop_drop]using this
  ·have h2:p v=true:=by simpa using h2
   intros;refine gN ?_
   refine hbk cur ys' i _ (by omega) hcl hy' ?_ ?_ (by((refine sI ?_;try with_reducible exact True.intro))) (by((refine sI ?_;try with_reducible exact True.intro))) (by((refine sI ?_;try with_reducible exact True.intro))) (by((refine sI ?_;try with_reducible exact True.intro)))
   ·rw[ht,htk,List.filter_append]
    simp[h2]
   ·have:(cur.drop j).drop 1=(l.drop j).drop 1:=by rw[hdr]
    simpa [List.drop_drop]using this
 ·have h1:j=l.length:=by have:=of_decide_eq_false h1;omega
  subst h1
  rw[List.take_length]at ht
  refine go_exit ?_
  refine sI ?_
  intros;refine gr 36 39 ?_;refine sJ2 c140r11.eq_1 @slY_i ?_
  have hne:¬ c=i:=by omega
  have hl2:(l.filter fun s=>!p s).length=i:=by rw[← ht,List.length_take];omega
  have hzl:(Builtin.zeroCells #[.int .i64 0] (l.length - i)).toList.length=l.length - i:=by rw[Array.length_toList,size_zeroCells];simp
  have hyl:ys'.length=l.length:=by rw[hy'.len,hcl,Nat.mul_one]
  refine⟨by omega,?_⟩
  rw[if_neg hne,Nat.zero_add,Nat.mul_one]
  generalize hzs:(Builtin.zeroCells #[.int .i64 0] (l.length - i)).toList=zz at hzl
  refine⟨_,_,_,_,rfl,.inr ⟨g,i,⟨rfl,by simp[Value.oneCell']⟩,by rw[hzs];exact .row [] (by omega)⟩,?_⟩
  refine sI ?_
  intros;refine gr 39 42 ?_;refine sJ c140r12.eq_1 ?_
  refine⟨by omega,?_⟩
  refine sI ?_
  intros
  refine go_ghost (ghost_cut (m:=i) (by omega)) ?_
  refine go_ret (retQ_o _ rfl (List.Sublist.refl _) (noRegs_row noRegs_nil) ⟨some ⟨g,0,none⟩,c,ys'.take (i * 1),?_,?_,?_⟩)
  ·rw[hl2];rfl
  ·rw[← ht];exact(hy'.split i (by omega)).1
  ·rw[hl2]
   have:(splice ys' i zz).take (i * 1)=ys'.take (i * 1):=by
    rw[Nat.mul_one,splice,List.append_assoc,List.take_append_of_le_length (by rw[List.length_take];omega),List.take_take,Nat.min_self]
   rw[this]
   rfl
theorem out1_ok(n m:Int)(b:Nat)(G:Nat→Option Obj)(h:cellG G ⟨b,0,none⟩=some (.int .i64 n)):FnS Tryz.prog 141 #[.int .i64 m,.pointer (some ⟨b,0,none⟩)] G (.bool (decide (m=n))):=by
 refine F141.fnS (by simp) (go_of ?_)
 unfold c141
 intros;refine gr 0 0 ?_;refine sJ c141r0.eq_1 ?_
 intros;refine gr 4 7 ?_;refine sJ c141r1.eq_1 ?_
 refine⟨_,⟨_,rfl,.g h⟩,?_⟩
 refine sI ?_
 intros;refine rV ?_;simp only[push_cast,Nat.reduceBEq]
theorem pt_out(p:Pt)(x:Nat)(A:Option Addr)(c:Nat)(B:Option Addr)(d:Nat)(ys zs:List Value):
  (PtL p x A c B d ys zs).Perm ([Kx.Item.row (.slice A p.isr.length c) 3 1 p.isr.length ys]++[Kx.Item.blk x (cellT p A c B d),Kx.Item.row (.slice B p.reps.length d) 50 7 p.reps.length zs]) :=
 List.perm_append_comm (l₁:=[Kx.Item.blk x (cellT p A c B d),Kx.Item.row (.slice B p.reps.length d) 50 7 p.reps.length zs]) (l₂:=[Kx.Item.row (.slice A p.isr.length c) 3 1 p.isr.length ys])
def outP(p:Pt)(n:Int):Pt:={ p with isr:=p.isr.filter fun m=>decide (m≠n) }
theorem out_ok(p:Pt)(n:Int)(x:Nat)(A:Option Addr)(c:Nat)(B:Option Addr)(d:Nat)(ys zs:List Value)(G:Nat→Option Obj)(hy:Cells IE 1 p.isr ys):
  FnO Tryz.prog 87 #[.pointer (some ⟨x,0,none⟩),.int .i64 n] G (PtL p x A c B d ys zs) (fun G' L' r=>r=.tuple #[]∧∃ A' c' ys',L'=PtL (outP p n) x A' c' B d ys' zs∧Cells IE 1 (outP p n).isr ys'):=by
 have hfe:(p.isr.filter fun s=>!decide (s=n))=(outP p n).isr:=List.filter_congr fun s _=>by simp
 refine F87.fnO (by simp) noRegs_pt (go_of ?_)
 unfold c87
 intros;refine gr 0 0 ?_;refine sJ c87r0.eq_1 ?_
 intro b3 hb3
 refine sI ?_
 intros
 refine go_gx (gx_blk_at [] _) ?_
 rintro h' ⟨G1,rfl,hg1,f3⟩
 have f3:=f3 0 _ rfl
 rw[add_off]at f3
 intros;refine gr 4 15 ?_;refine sJ c87r1.eq_1 ?_
 refine⟨_,ldN_blk (cs:=cellT p A c B d) (.head _) rfl,?_⟩
 refine sI ?_
 have hdel:=DeleteI_ok p.isr (fun m=>decide (m=n)) 141 #[.pointer (some ⟨b3,0,none⟩)] A c ys G1 hy fun G' hg s hs hi=>out1_ok n s b3 G' (cellG_le hg f3)
 refine CallsH.ghost (h':=⟨G1,[.row (.slice A p.isr.length c) 3 1 p.isr.length ys]++[.blk x (cellT p A c B d),.row (.slice B p.reps.length d) 50 7 p.reps.length zs],[]⟩) (ghost_perm (pt_out p x A c B d ys zs)) ?_
 refine(hdel _ _).mono ?_
 rintro r h' ⟨G2,L',rfl,hg2,A',c',ys',rfl,hy2,rfl⟩
 rw[hfe]at hy2 ⊢
 refine sI ?_
 refine stX_blk [_] _ rfl (by simp[cellT]) ⟨rfl,rfl⟩ ?_
 refine sI ?_
 intros
 exact go_nil ⟨[],rfl,⟨G2,PtL (outP p n) x A' c' B d ys' zs,[]⟩,ghost_perm (pt_out (outP p n) x A' c' B d ys' zs).symm,noRegs_pt,rfl,A',c',ys',rfl,hy2⟩
theorem outP_ids{p:Pt}(n:Int)(h:∀ m∈p.isr,m∈idsR p.reps):∀ m∈(outP p n).isr,m∈idsR (outP p n).reps:=fun m hm=>h m (List.mem_filter.1 hm).1
theorem Slow1_ok(p:Pt)(n:Int)(b3 k:Nat)(r:Rp)(G:Nat→Option Obj)(hok:okP p)(hsm:smP p)(hI:I64P p)(hn:I64 n)(h3:cellG G ⟨b3,0,none⟩=some (.int .i64 n))(hr:p.reps[k]?=some r):
  DoesR G 102 #[.pointer (some ⟨b3,0,none⟩)] p k (slowF n p k r):=by
 intro G1 x A c ga d ys zs hg hy hz
 have h3:=cellG_le hg h3
 rw[show(#[.pointer (some ⟨x,0,none⟩),.pointer (some ⟨ga,k * 7,none⟩)]++#[.pointer (some ⟨b3,0,none⟩)]:Array Value)=#[.pointer (some ⟨x,0,none⟩),.pointer (some ⟨ga,k * 7,none⟩),.pointer (some ⟨b3,0,none⟩)]from rfl]
 refine F102.fnO (by simp) noRegs_pt (go_of ?_)
 unfold c102
 intros;refine gr 0 0 ?_;refine sJ c102r0.eq_1 ?_
 (intros;try refine go_st ?_)
 intros;refine gr 7 13 ?_;refine sJ c102r1.eq_1 ?_
 refine⟨_,ldN_blk (cs:=cellT p A c (some ⟨ga,0,none⟩) d) (.head _) rfl,?_⟩
 refine sI ?_
 intros;refine gc ?_;refine sI ?_
 refine gb (fun k1=>?_) (fun k1=>?_)
 ·have k1:=of_decide_eq_true k1
  intros;refine gr 0 0 ?_;refine sJ c102r2.eq_1 ?_
  intros
  refine go_ret (retQ_o [] rfl (List.nil_sublist _) noRegs_nil ?_)
  rw[slowF,if_pos k1]
  exact chg_e x _ (by decide)
 have k1:=of_decide_eq_false k1
 have hno:n=p.leader∨n∉p.isr→∀ (fr:List Td) (e:Env) (h:H),go none Tryz.prog 36 v102.1 v102.2 (retQ o102 fun v h=>ChgR (slowF n p k r) x (· = []) h.G h.L v) (Td.s ((SC.reg false c102r4).seq .ret) :: fr) e h:=fun h fr e h=>by
  intros;refine gr 0 0 ?_;refine sJ c102r4.eq_1 ?_
  intros
  refine go_ret (retQ_o [] rfl (List.nil_sublist _) noRegs_nil ?_)
  rw[slowF,if_neg k1,if_pos ‹_›]
  exact chg_e x _ (by decide)
 intros;try refine go_seq ?_
 (intros;try refine go_st ?_);refine go_x _ (List.Sublist.refl _) (by decide) ?_;refine sJ c102r3.eq_1 ?_
 refine⟨_,⟨_,rfl,.g h3⟩,?_⟩
 refine sI ?_
 refine⟨_,ldN_blk (cs:=cellT p A c (some ⟨ga,0,none⟩) d) (.head _) rfl,?_⟩
 refine sI ?_
 refine gx (fun k2=>?_) (fun k2=>?_)
 ·have k2:=of_decide_eq_true k2
  refine sI ?_
  intros;refine gc ?_;refine sI ?_
  exact hno (.inl k2) _ _ _
 have k2:=of_decide_eq_false k2
 refine sI ?_
 refine⟨_,ldN_blk (cs:=cellT p A c (some ⟨ga,0,none⟩) d) (.head _) rfl,?_⟩
 refine sI ?_
 refine⟨_,⟨_,rfl,.g h3⟩,?_⟩
 refine sI ?_
 refine(contains_own p.isr n A c ys _ _ (List.perm_append_comm (l₁:=[_,_]) (l₂:=[_])) hy).mono ?_;rintro _ _ ⟨rfl,rfl⟩;refine sI ?_
 intros;refine gc ?_;refine sI ?_
 refine gb (fun k3=>?_) (fun k3=>?_)
 ·have k3:n∉p.isr:=by simpa using k3
  exact hno (.inr k3) _ _ _
 have k3:n∈p.isr:=by simpa using k3
 have hq:slowF n p k r=(raiseP (outP p n),0):=by
  rw[slowF,if_neg k1,if_neg (fun h=>by rcases h with h | h;exact k2 h;exact h k3)]
  rfl
 rw[hq]
 clear hno hq
 have hout:=out_ok p n x A c (some ⟨ga,0,none⟩) d ys zs G1 hy
 intros;refine gN ?_
 intros;try refine go_seq ?_
 intros;refine gr 31 34 ?_;refine sJ c102r5.eq_1 ?_
 refine⟨_,⟨_,rfl,.g h3⟩,?_⟩
 refine sI ?_
 rw[← List.append_nil (PtL p x A c (some ⟨ga,0,none⟩) d ys zs)]
 refine(hout _ _).mono ?_
 rintro r' h' ⟨G2,L',rfl,hg2,rfl,A',c',ys',rfl,hy2⟩
 rw[List.append_nil]
 have hraise:=raise_ok (outP p n) x A' c' (some ⟨ga,0,none⟩) d ys' zs G2 hy2 (cells_imp hz fun _ _ h=>RE.le hg2 h) (okIds_of (p:=p) hok) (outP_ids n hok.2.1.2) (smW_of hsm.1) hI
 refine sI ?_
 intros;try refine go_seq ?_
 intros;refine gr 34 36 ?_;refine sJ c102r6.eq_1 ?_
 rw[← List.append_nil (PtL (outP p n) x A' c' (some ⟨ga,0,none⟩) d ys' zs)]
 refine(hraise _ _).mono ?_
 rintro r' h' ⟨G3,L',rfl,hg3,rfl,zs',rfl,hz'⟩
 rw[List.append_nil]
 refine sI ?_
 intros;try refine go_seq ?_
 intros;refine gr 0 0 ?_;refine sJ c102r7.eq_1 ?_
 intros
 refine go_ret (retQ_o _ rfl (List.Sublist.refl _) noRegs_pt (chg_0 ?_ hz' (raiseP_i (p:=outP p n) hI)))
 rw[(raiseP_same (outP p n)).2.2.2.1]
 exact hy2
theorem Slow_ok(p:Pt)(cs:List Value)(n:Int)(G:Nat→Option Obj)(hp:PE G p cs)(hsm:smP p)(hn:I64 n):FnD Tryz.prog 44 #[.agg cs.toArray,.int .i64 n] G (PtR (ofP p n (slowF n))):=by
 have hp0:=hp
 obtain⟨A,c,B,d,rfl,-,-,hI⟩:=hp
 refine F44.fnD (by simp) (go_of ?_)
 unfold c44
 unfold cellT at hp0 ⊢
 intros;refine gr 0 0 ?_;refine sJ c44r0.eq_1 ?_
 intro b3 hb3
 refine sI ?_
 intros
 refine go_gx (gx_blk_at [_] _) ?_
 rintro h' ⟨G1,rfl,hg1,f3⟩
 have f3:=f3 0 _ rfl
 rw[add_off]at f3
 have hof:=of_ok p _ n 102 #[.pointer (some ⟨b3,0,none⟩)] (slowF n p) G1 (hp0.le hg1) hsm hn fun hok k r _ hr=>Slow1_ok p n b3 k r G1 hok hsm hI hn f3 hr
 rw[← ofP_eq]at hof
 intros;refine gr 6 12 ?_;refine sJ c44r1.eq_1 ?_
 refine⟨_,⟨_,rfl,.g f3⟩,?_⟩
 refine sI ?_
 refine(hof _ _).mono ?_
 rintro r h' ⟨G2,rfl,hg2,cs2,rfl,hpe⟩
 have hpe0:=hpe
 obtain⟨A2,c2,B2,d2,rfl,-⟩:=hpe
 unfold cellT at hpe0 ⊢
 refine sI ?_
 intros;refine rV ?_;simp only[push_cast,Nat.reduceBEq]
 exact⟨_,rfl,hpe0⟩
theorem F36:Fun Tryz.prog 36 11 v36 c36 o36:=Fun.mkA Tryz.func36 Tryz.ntmps36
theorem F88:Fun Tryz.prog 88 46 v88 c88 o88:=Fun.mkA Tryz.func88 Tryz.ntmps88
theorem ld_log{r:Rp}{A:Option Addr}{c:Nat}{B:Option Addr}{d k:Nat}{zs:List Value}(hld:∀ o u,(cellP r A c B d)[o]?=some u→zs[k * 7+o]?=some u):∀ j u,(cellL r.log A c)[j]?=some u→zs[k * 7+2+j]?=some u:=fun j u hj=>by
 rw[Nat.add_assoc]
 refine hld (2+j) u ?_
 match j,hj with
 | 0,h=>exact h
 | 1,h=>exact h
 | 2,h=>exact h
 | j+3,h=>cases h
theorem set_get{l:List Rp}{k:Nat}{r y:Rp}(h:l[k]?=some r):(l.set k y)[k]?=some y:=List.getElem?_set_self (List.getElem?_eq_some_iff.1 h).1
theorem chg_set{p:Pt}{k:Nat}{y:Rp}{x:Nat}{G:Nat→Option Obj}{A:Option Addr}{c:Nat}{B:Option Addr}{d:Nat}{ys zs:List Value}(hy:Cells IE 1 p.isr ys)(hz:Cells (RE G) 7 (p.reps.set k y) zs)(hi:I64P p):
  ChgR (setR p k y,0) x (· = []) G (PtL p x A c B d ys zs) (.int .i64 0):=by
 have:=chg_0 (p:=setR p k y) (x:=x) (G:=G) (A:=A) (c:=c) (B:=B) (d:=d) hy hz hi
 rwa [ptL_set]at this
theorem Back1_ok(p:Pt)(k:Nat)(r:Rp)(G:Nat→Option Obj)(hok:okP p)(hsm:smP p)(hI:I64P p)(hr:p.reps[k]?=some r):DoesR G 88 #[] p k (backF p k r):=by
 intro G1 x A c ga d ys zs hg hy hz
 rw[show(#[.pointer (some ⟨x,0,none⟩),.pointer (some ⟨ga,k * 7,none⟩)]++#[]:Array Value)=#[.pointer (some ⟨x,0,none⟩),.pointer (some ⟨ga,k * 7,none⟩)]from rfl]
 have hsr:=hsm.1 r (List.mem_of_getElem? hr)
 have hkl:=(List.getElem?_eq_some_iff.1 hr).1
 have hzl:=hz.len
 refine F88.fnO (by simp) noRegs_pt (go_of ?_)
 unfold c88
 intros;refine gr 0 0 ?_;refine sJ c88r0.eq_1 ?_
 intros;try refine go_seq ?_
 obtain⟨cs,hre,hcl,hld⟩:=hz.get hr
 obtain⟨A1,c1,B1,d1,rfl,-⟩:=hre
 intros;try refine go_seq ?_
 intros;refine gr 6 9 ?_;refine sJ c88r1.eq_1 ?_
 refine⟨_,ldN_row (.tail _ (.head _)) (hld 1 _ rfl),?_⟩
 refine sI ?_
 intros;refine gc ?_;refine sI ?_
 refine gb (fun k1=>?_) (fun k1=>?_)
 ·intros;refine gr 0 0 ?_;refine sJ c88r2.eq_1 ?_
  intros
  refine go_ret (retQ_o [] rfl (List.nil_sublist _) noRegs_nil ?_)
  rw[backF,if_pos k1]
  exact chg_e x _ (by decide)
 have hq:backF p k r=(setR p k (backR r),0):=by rw[backF,if_neg (by rw[k1];simp)]
 rw[hq]
 clear hq
 have hz1:Cells (RE G1) 7 (p.reps.set k { r with up:=true }) (splice zs (k * 7+1) [.bool true]):=Cells.setF hz hr (by simp) fun cs h hl=>by
  obtain⟨A5,c5,B5,d5,rfl,q⟩:=h
  exact⟨A5,c5,B5,d5,rfl,q⟩
 have hr1:=set_get (y:={ r with up:=true }) hr
 intros;refine gN ?_
 intros;refine gr 10 13 ?_;refine sJ c88r3.eq_1 ?_
 refine stX_row [_] _ rfl (by simp;omega) ⟨rfl,rfl⟩ ?_
 have hzl1:=hz1.len
 rw[List.length_set]at hzl1
 clear hld hcl hz
 generalize splice zs (k * 7+1) [.bool true]=zs1 at *
 obtain⟨cs,hre,hcl,hld⟩:=hz1.get hr1
 have hre0:=hre
 obtain⟨A1,c1,B1,d1,rfl,q1,q2,q3,q4⟩:=hre
 have hrec:=Recover_ok r.log _ G1 ⟨A1,c1,rfl,q1,q3⟩ hsr.1 hsr.2.1
 have hldl:=ld_log hld
 unfold cellL at hrec hldl
 refine sI ?_
 intros;try refine go_seq ?_
 intros;refine gr 13 24 ?_;refine sJ c88r4.eq_1 ?_
 refine⟨_,ldN_rowN (.tail _ (.head _)) rfl hldl,?_⟩
 refine sI ?_
 refine(hrec _ _).mono ?_
 rintro v h' ⟨G2,rfl,hg2,cs2,rfl,hle⟩
 have hle0:=hle
 obtain⟨A2,c2,rfl,hsl2,hlim2⟩:=hle
 unfold cellL
 refine sI ?_
 refine stX_row [_] _ rfl (by simp;omega) ⟨rfl,rfl⟩ ?_
 have hz2:Cells (RE G2) 7 (p.reps.set k { r with up:=true,log:=(recL r.log).1 }) (splice zs1 (k * 7+2) (cellL (recL r.log).1 A2 c2)):=by
  have:=Cells.setF (E:=RE G2) (o:=2) (us:=cellL (recL r.log).1 A2 c2) (x':={ r with up:=true,log:=(recL r.log).1 }) (cells_imp hz1 fun _ _ h=>RE.le hg2 h) hr1 (by simp[cellL]) fun cs h hl=>by
   obtain⟨A5,c5,B5,d5,rfl,q1,q2,q3,q4⟩:=h
   exact⟨A2,c2,B5,d5,rfl,hsl2,q2,hlim2,q4⟩
  rwa [List.set_set]at this
 unfold cellL at hz2
 have hr2:=set_get (y:={ r with up:=true,log:=(recL r.log).1 }) hr
 have hzl2:=hz2.len
 rw[List.length_set]at hzl2
 clear hld hldl hcl hz1
 generalize splice zs1 (k * 7+2) [.int .i64 (recL r.log).1.limit,.int .i64 (recL r.log).1.start,.slice A2 (recL r.log).1.segs.length c2]=zs2 at *
 obtain⟨cs,hre,hcl,hld⟩:=hz2.get hr2
 have hre1:=hre
 obtain⟨A1,c1,B1,d1,rfl,q1,q2,q3,q4⟩:=hre
 have hsm2:=rec_sm hsr.1 hsr.2.1
 have hend:=pend_ok _ _ G2 hre1 hsm2.1 (by have:=hsm2.2;show(recL r.log).1.segs.length≤_;omega)
 unfold cellP at hend
 refine sI ?_
 intros;try refine go_seq ?_
 intros;refine gr 24 28 ?_;refine sJ c88r5.eq_1 ?_
 refine⟨_,ldN_rowN (.tail _ (.head _)) hcl hld,?_⟩
 unfold cellP
 refine sI ?_
 refine(hend _ _).mono ?_;rintro _ _ ⟨rfl,rfl⟩;refine sI ?_
 have hei:=EndL_i (recL r.log).1
 have hbr:backR r=⟨r.id,true,(recL r.log).1,cutM r.eps (EndL (recL r.log).1),min r.high (EndL (recL r.log).1)⟩:=rfl
 rw[hbr]
 have hcut:=ECut_ok r.eps (EndL (recL r.log).1) _ G2 q2 (by have:=hsr.2.2;omega)
 generalize EndL (recL r.log).1=en at *
 intros;try refine go_seq ?_
 (intros;try refine go_st ?_);refine go_w _ (List.Sublist.refl _) (by decide) ?_;refine sJ c88r6.eq_1 ?_
 refine⟨_,ldN_row (.tail _ (.head _)) (hld 5 _ rfl),?_⟩
 refine sI ?_
 refine⟨_,ldN_row (.tail _ (.head _)) (hld 6 _ rfl),?_⟩
 refine sI ?_
 refine(ownN_sl (E:=EpE) (et:=151) (sz:=2) hcut _ _).mono ?_
 rintro r' h' ⟨G3,L',rfl,hg3,A3,c3,ye,rfl,-,hye,rfl⟩
 refine⟨grow_L hg3 (.cons _ (List.Sublist.refl _)),?_⟩
 refine sI ?_
 refine stX_row [_,_] _ rfl (by simp;omega) ⟨rfl,rfl⟩ ?_
 refine sI ?_
 refine again_0 ?_
 refine sI ?_
 refine stX_row [_,_] _ rfl (by simp[splice];omega) ⟨rfl,rfl⟩ ?_
 refine sI ?_
 intros;try refine go_seq ?_
 refine go_gx (gx_slv_at [] _ (by decide) hye) ?_
 rintro h' ⟨G4,rfl,hg4,hv4⟩
 have hz3:Cells (RE G4) 7 (p.reps.set k { r with up:=true,log:=(recL r.log).1,eps:=cutM r.eps en }) (splice zs2 (k * 7+5) [.slice A3 (cutM r.eps en).length c3]):=by
  have:=Cells.setF (E:=RE G4) (o:=5) (us:=[.slice A3 (cutM r.eps en).length c3]) (x':={ r with up:=true,log:=(recL r.log).1,eps:=cutM r.eps en }) (cells_imp hz2 fun _ _ h=>RE.le (hg3.trans hg4) h) hr2 (by simp) fun cs h hl=>by
   obtain⟨A5,c5,B5,d5,rfl,q1,q2,q3,q4⟩:=h
   exact⟨A5,c5,A3,c3,rfl,q1,hv4,q3,q4⟩
  rwa [List.set_set]at this
 have hr3:=set_get (y:={ r with up:=true,log:=(recL r.log).1,eps:=cutM r.eps en }) hr
 have hz4:Cells (RE G4) 7 (p.reps.set k { r with up:=true,log:=(recL r.log).1,eps:=cutM r.eps en,high:=min r.high en }) (splice (splice zs2 (k * 7+5) [.slice A3 (cutM r.eps en).length c3]) (k * 7+6) [.int .i64 (min r.high en)]):=by
  have:=Cells.setF (E:=RE G4) (o:=6) (us:=[.int .i64 (min r.high en)]) (x':={ r with up:=true,log:=(recL r.log).1,eps:=cutM r.eps en,high:=min r.high en }) hz3 hr3 (by simp) fun cs h hl=>by
   obtain⟨A5,c5,B5,d5,rfl,q1,q2,q3,q4,q5⟩:=h
   have q5:I64 r.high:=q5
   exact⟨A5,c5,B5,d5,rfl,q1,q2,q3,q4,by unfold I64 at q5 ⊢;show _≤min r.high en∧min r.high en≤_;omega⟩
  rwa [List.set_set]at this
 intros;refine gr 0 0 ?_;refine sJ c88r7.eq_1 ?_
 intros
 exact go_ret (retQ_o _ rfl (List.Sublist.refl _) noRegs_pt (chg_set hy hz4 hI))
theorem Back_ok(p:Pt)(cs:List Value)(n:Int)(G:Nat→Option Obj)(hp:PE G p cs)(hsm:smP p)(hn:I64 n):FnD Tryz.prog 36 #[.agg cs.toArray,.int .i64 n] G (PtR (ofP p n backF)):=by
 have hp0:=hp
 obtain⟨A,c,B,d,rfl,-,-,hI⟩:=hp
 refine F36.fnD (by simp) (go_of ?_)
 unfold c36
 unfold cellT at hp0 ⊢
 intros;refine gr 0 0 ?_;refine sJ c36r0.eq_1 ?_
 have hof:=of_ok p _ n 88 #[] (backF p) G hp0 hsm hn fun hok k r _ hr=>Back1_ok p k r G hok hsm hI hr
 rw[← ofP_eq]at hof
 intros;refine gr 6 11 ?_;refine sJ c36r1.eq_1 ?_
 refine(hof _ _).mono ?_
 rintro r h' ⟨G2,rfl,hg2,cs2,rfl,hpe⟩
 have hpe0:=hpe
 obtain⟨A2,c2,B2,d2,rfl,-⟩:=hpe
 unfold cellT at hpe0 ⊢
 refine sI ?_
 intros;refine rV ?_;simp only[push_cast,Nat.reduceBEq]
 exact⟨_,rfl,hpe0⟩
theorem F35:Fun Tryz.prog 35 14 v35 c35 o35:=Fun.mkA Tryz.func35 Tryz.ntmps35
theorem F85:Fun Tryz.prog 85 81 v85 c85 o85:=Fun.mkA Tryz.func85 Tryz.ntmps85
theorem ids_set{l:List Rp}{k:Nat}{r y:Rp}(hr:l[k]?=some r)(h:y.id=r.id):idsR (l.set k y)=idsR l:=by
 unfold idsR
 rw[List.map_set,h]
 refine List.ext_getElem? fun i=>?_
 rw[List.getElem?_set]
 split
 ·rename_i he
  subst he
  rw[List.getElem?_map,hr]
  have:=(List.getElem?_eq_some_iff.1 hr).1
  simp[this]
 ·rfl
theorem okIds_set{l:List Rp}{k:Nat}{r y:Rp}(hr:l[k]?=some r)(h:y.id=r.id)(ho:okIds l):okIds (l.set k y):=by
 refine⟨by rw[ids_set hr h];exact ho.1,fun z hz=>?_⟩
 rcases List.mem_or_eq_of_mem_set hz with hz | rfl
 ·exact ho.2 z hz
 ·rw[h];exact ho.2 r (List.mem_of_getElem? hr)
theorem smR_set{l:List Rp}{k:Nat}{y:Rp}(h:∀ r∈l,smR r)(hy:smR y):∀ r∈l.set k y,smR r:=fun z hz=>by
 rcases List.mem_or_eq_of_mem_set hz with hz | rfl
 ·exact h z hz
 ·exact hy
theorem torn_le(s:Sg)(n:Int):(tornS s n).bytes.length≤s.bytes.length:=by simp[tornS]
theorem smL_torn{l:Lg}{n:Int}(h:smL l.segs):smL (tornL l n).segs:=fun s hs=>by
 rcases List.mem_or_eq_of_mem_set hs with hs | rfl
 ·exact h s hs
 ·have h1:=torn_le (nthS l (l.segs.length - 1)) n
  by_cases h2:l.segs=[]
  ·rw[nthS,h2]at h1 ⊢
   simp[noneS]at h1 ⊢
   simp[tornS,noneS]
  ·obtain⟨s,e1,-⟩:=last_split h2
   have h3:nthS l (l.segs.length - 1)=s:=by rw[nthS,List.getD_eq_getElem?_getD,e1];rfl
   rw[h3]at h1 ⊢
   have:=h s (List.mem_of_getElem? e1)
   omega
def downR(r:Rp)(n:Int):Rp:={ r with up:=false,log:=tornL r.log n }
def crashQ(p:Pt)(n:Int):Pt:={ p with leader:=if p.leader=n then -1 else p.leader }
def crashI(p:Pt)(n:Int):Pt:=if 1 < p.isr.length then outP p n else p
theorem crashF_eq(p:Pt)(n t:Int)(k:Nat)(r:Rp)(h1:¬ t < 0)(h2:r.up=true):crashF n t p k r=(raiseP (setR (crashI (crashQ p n) n) k (downR r t)),0):=by
 rw[crashF,if_neg h1,if_neg (by rw[h2];simp)]
 unfold crashI crashQ
 dsimp only
 by_cases h3:1 < p.isr.length
 ·rw[if_pos h3,if_pos h3];rfl
 ·rw[if_neg h3,if_neg h3];rfl
theorem Crash1_ok(p:Pt)(n t:Int)(b5 b4 k:Nat)(r:Rp)(G:Nat→Option Obj)(hok:okP p)(hsm:smP p)(hI:I64P p)(hn:I64 n)(ht:I64 t)(h5:cellG G ⟨b5,0,none⟩=some (.int .i64 t))(h4:cellG G ⟨b4,0,none⟩=some (.int .i64 n))(hr:p.reps[k]?=some r):
  DoesR G 85 #[.pointer (some ⟨b5,0,none⟩),.pointer (some ⟨b4,0,none⟩)] p k (crashF n t p k r):=by
 intro G1 x A c ga d ys zs hg hy hz
 have h5:=cellG_le hg h5
 have h4:=cellG_le hg h4
 rw[show(#[.pointer (some ⟨x,0,none⟩),.pointer (some ⟨ga,k * 7,none⟩)]++#[.pointer (some ⟨b5,0,none⟩),.pointer (some ⟨b4,0,none⟩)]:Array Value)=#[.pointer (some ⟨x,0,none⟩),.pointer (some ⟨ga,k * 7,none⟩),.pointer (some ⟨b5,0,none⟩),.pointer (some ⟨b4,0,none⟩)]from rfl]
 have hsr:=hsm.1 r (List.mem_of_getElem? hr)
 have hor:=hok.1.2.2.2.2 r (List.mem_of_getElem? hr)
 have hkl:=(List.getElem?_eq_some_iff.1 hr).1
 have hzl:=hz.len
 obtain⟨cs,hre,hcl,hld⟩:=hz.get hr
 obtain⟨A1,c1,B1,d1,rfl,q1,q2,q3,q4⟩:=hre
 refine F85.fnO (by simp) noRegs_pt (go_of ?_)
 unfold c85
 intros;refine gr 0 0 ?_;refine sJ c85r0.eq_1 ?_
 (intros;try refine go_st ?_)
 intros;refine gr 10 12 ?_;refine sJ c85r1.eq_1 ?_
 refine⟨_,⟨_,rfl,.g h5⟩,?_⟩
 refine sI ?_
 intros;refine gc ?_;refine sI ?_
 refine gb (fun k1=>?_) (fun k1=>?_)
 ·have k1:=of_decide_eq_true k1
  intros;refine gr 0 0 ?_;refine sJ c85r2.eq_1 ?_
  intros
  refine go_ret (retQ_o [] rfl (List.nil_sublist _) noRegs_nil ?_)
  rw[crashF,if_pos k1]
  exact chg_e x _ (by decide)
 have k1:=of_decide_eq_false k1
 intros;try refine go_seq ?_
 intros;refine gr 13 18 ?_;refine sJ c85r3.eq_1 ?_
 refine⟨_,ldN_row (.tail _ (.head _)) (hld 1 _ rfl),?_⟩
 refine sI ?_
 intros;refine gc ?_;refine sI ?_
 refine gb (fun k2=>?_) (fun k2=>?_)
 ·have k2:r.up=false:=by simpa using k2
  intros;refine gr 0 0 ?_;refine sJ c85r4.eq_1 ?_
  intros
  refine go_ret (retQ_o [] rfl (List.nil_sublist _) noRegs_nil ?_)
  rw[crashF,if_neg k1,if_pos k2]
  exact chg_e x _ (by decide)
 have k2:r.up=true:=by simpa using k2
 rw[crashF_eq p n t k r k1 k2]
 have hlr:logR r=r.log:=by rw[logR,if_pos k2]
 have hck:chkL r.log=0:=by rw[← hlr];exact hor.2.1
 have hne:=(chkL_0 hck).2.1
 have hn0:0 < r.log.segs.length:=List.length_pos_iff.2 hne
 obtain⟨s,e1,e2,e3⟩:=last_split hne
 have hcl:=CloneS_ok r.log.segs _ G1 q1 (by have:=hsr.2.1;omega)
 intros;refine gN ?_
 intros;try refine go_seq ?_
 intros;refine gr 18 24 ?_;refine sJ c85r5.eq_1 ?_
 refine⟨_,ldN_row (.tail _ (.head _)) (hld 4 _ rfl),?_⟩
 refine sI ?_
 refine(ownN_sl hcl _ _).mono ?_
 rintro v h' ⟨G2,L',rfl,hg2,A2,c2,ss,rfl,-,hss,rfl⟩
 refine sI ?_
 intros;try refine go_seq ?_
 refine go_gx (gx_know (.head _) hn0) ?_
 rintro h' ⟨rfl,g2,c9,he,-,-⟩
 cases he
 have hw1:IntKind.i64.wrap ((r.log.segs.length:Int) - 1)=((r.log.segs.length - 1:Nat):Int):=by have:=hsr.2.1;rw[w64_id] <;> omega
 intros;refine gr 24 29 ?_;refine sJ2 c85r6.eq_1 @hw1 ?_
 refine⟨by omega,_,rfl,?_⟩
 refine sJ @Nat.zero_add ?_
 obtain⟨cs,hse,hcl2,hld2⟩:=hss.get e1
 obtain⟨B3,d3,rfl,hsb,hsi⟩:=hse
 unfold cellS at hld2
 have hsbl:=hsr.1 s (List.mem_of_getElem? e1)
 have hmn:(min t (s.bytes.length:Int)).toNat≤s.bytes.length:=by omega
 have hwm:IntKind.i64.wrap ((s.bytes.length:Int) - min t (s.bytes.length:Int))=((s.bytes.length - (min t (s.bytes.length:Int)).toNat:Nat):Int):=by rw[w64_id] <;> omega
 have hdm:s.bytes.length≤d3:=by
  obtain⟨_,_,he,h1,h2,_⟩:=hsb
  cases he
  exact h1
 generalize hmm:s.bytes.length - (min t (s.bytes.length:Int)).toNat=m at *
 intros;try refine go_seq ?_
 (intros;try refine go_st ?_);refine go_t (by decide) ?_;refine sJ c85r7.eq_1 ?_
 refine⟨_,ldN_row (.head _) (hld2 1 _ rfl),?_⟩
 refine sI ?_
 refine⟨_,ldN_row (.head _) (hld2 1 _ rfl),?_⟩
 refine sI ?_
 refine⟨_,⟨_,rfl,.g (cellG_le hg2 h5)⟩,?_⟩
 refine sI ?_
 refine⟨_,ldN_row (.head _) (hld2 1 _ rfl),?_⟩
 refine sJ @hwm ?_
 refine⟨by omega,?_⟩
 refine sJ c85r8.eq_1 ?_
 refine stX_row [] _ rfl (by simp;have:=hss.len;omega) ⟨rfl,rfl⟩ ?_
 refine sI ?_
 have hns:nthS r.log (r.log.segs.length - 1)=s:=by rw[nthS,List.getD_eq_getElem?_getD,e1];rfl
 have htn:tornS s t=⟨s.base,s.bytes.take m⟩:=by rw[← hmm];rfl
 have hlen:(downR r t).log.segs.length=r.log.segs.length:=List.length_set ..
 have hss2:Cells (SE G2) 2 (downR r t).log.segs (splice ss ((r.log.segs.length - 1) * 2+1) [.slice B3 m d3]):=by
  have:=Cells.setF (E:=SE G2) (o:=1) (us:=[.slice B3 m d3]) (x':=tornS s t) (cells_imp hss fun _ _ h=>SE.le hg2 h) e1 (by simp) fun cs h hl=>by
   obtain⟨B5,d5,rfl,h1,h2⟩:=h
   have hbl:(s.bytes.take m).length=m:=by rw[List.length_take];omega
   rw[htn]
   refine⟨B3,d3,?_,?_,h2⟩
   ·show[Value.int .i64 s.base,.slice B3 m d3]=[.int .i64 s.base,.slice B3 (s.bytes.take m).length d3]
    rw[hbl]
   ·show SB G2 (.slice B3 (s.bytes.take m).length d3) (s.bytes.take m)
    rw[hbl]
    exact SlV.pre m (SB.le hsb hg2) (by omega)
  show Cells (SE G2) 2 (r.log.segs.set (r.log.segs.length - 1) (tornS (nthS r.log (r.log.segs.length - 1)) t)) _
  rw[hns]
  exact this
 intros;try refine go_seq ?_
 refine go_gx (gx_slv_at [] _ (by decide) hss2) ?_
 rintro h' ⟨G3,rfl,hg3,hv3⟩
 have hv3:SlV G3 (SE G3) 2 (.slice (some ⟨g2,0,none⟩) (downR r t).log.segs.length c2) (downR r t).log.segs:=by rw[hlen];exact hv3.le (.refl _) fun _ _ h=>SE.le hg3 h
 have hg13:=hg2.trans hg3
 have hz3:Cells (RE G3) 7 (p.reps.set k (downR r t)) (splice (splice zs (k * 7+1) [.bool false]) (k * 7+4) [.slice (some ⟨g2,0,none⟩) r.log.segs.length c2]):=by
  have h1:=Cells.setF (E:=RE G3) (o:=1) (us:=[.bool false]) (x':={ r with up:=false }) (cells_imp hz fun _ _ h=>RE.le hg13 h) hr (by simp) fun cs h hl=>by
   obtain⟨A5,c5,B5,d5,rfl,q⟩:=h
   exact⟨A5,c5,B5,d5,rfl,q⟩
  have h2:=Cells.setF (E:=RE G3) (o:=4) (us:=[.slice (some ⟨g2,0,none⟩) r.log.segs.length c2]) (x':=downR r t) h1 (set_get hr) (by simp) fun cs h hl=>by
   obtain⟨A5,c5,B5,d5,rfl,q1,q2,q3,q4⟩:=h
   refine⟨some ⟨g2,0,none⟩,c2,B5,d5,?_,hv3,q2,q3,q4⟩
   rw[← hlen]
   rfl
  rwa [List.set_set]at h2
 intros;refine gr 50 58 ?_;refine sJ c85r9.eq_1 ?_
 refine stX_row [_] _ rfl (by simp;omega) ⟨rfl,rfl⟩ ?_
 refine sI ?_
 refine stX_row [_] _ rfl (by simp[splice];omega) ⟨rfl,rfl⟩ ?_
 refine sI ?_
 generalize splice (splice zs (k * 7+1) [.bool false]) (k * 7+4) [.slice (some ⟨g2,0,none⟩) r.log.segs.length c2]=zs3 at *
 intros;try refine go_seq ?_
 refine go_cut (fun e h=>e 0=.pointer (some ⟨x,0,none⟩)∧e 3=.pointer (some ⟨b4,0,none⟩)∧h=⟨G3,PtL (crashQ p n) x A c (some ⟨ga,0,none⟩) d ys zs3,[]⟩) ?_ ?_
 ·intros;try refine go_seq ?_
  (intros;try refine go_st ?_);refine go_q 58 64 (by decide) ?_;refine sJ c85r10.eq_1 ?_
  refine⟨_,ldN_blk (cs:=cellT p A c (some ⟨ga,0,none⟩) d) (.head _) rfl,?_⟩
  refine sI ?_
  refine⟨_,⟨_,rfl,.g (cellG_le hg13 h4)⟩,?_⟩
  refine sI ?_
  intros;refine gc ?_;refine sI ?_
  refine gb (fun k3=>?_) (fun k3=>?_)
  ·have k3:=of_decide_eq_true k3
   intros;refine gr 65 69 ?_;refine sJ c85r11.eq_1 ?_
   refine stX_blk [] _ rfl (by simp[cellT]) ⟨rfl,rfl⟩ ?_
   refine sI ?_
   intros;refine gN ?_
   refine go_l ⟨eE,eE,?_⟩
   unfold crashQ
   rw[if_pos k3]
   rfl
  ·have k3:=of_decide_eq_false k3
   intros;refine gN ?_
   refine go_l ⟨eE,eE,?_⟩
   unfold crashQ
   rw[if_neg k3]
   rfl
 rintro e h ⟨e0,e3,rfl⟩
 refine go_keep [0,3] ?_
 refine sJ2 @e0 @e3 ?_
 intros;try refine go_seq ?_
 refine go_cut (fun e h=>∃ (G4:Nat→Option Obj) (A':Option Addr) (c':Nat) (ys':List Value),(Gle G3 G4∧Cells IE 1 (crashI (crashQ p n) n).isr ys')∧e 0=.pointer (some ⟨x,0,none⟩)∧h=⟨G4,PtL (crashI (crashQ p n) n) x A' c' (some ⟨ga,0,none⟩) d ys' zs3,[]⟩) ?_ ?_
 ·intros;try refine go_seq ?_
  intros;refine gr 69 75 ?_;refine sJ c85r12.eq_1 ?_
  refine⟨_,ldN_blk (cs:=cellT (crashQ p n) A c (some ⟨ga,0,none⟩) d) (.head _) rfl,?_⟩
  refine sI ?_
  intros;refine gc ?_;refine sI ?_
  refine gb (fun k3=>?_) (fun k3=>?_)
  ·have k3:1 < (crashQ p n).isr.length:=by have:=of_decide_eq_true k3;omega
   have hci:crashI (crashQ p n) n=outP (crashQ p n) n:=if_pos k3
   rw[hci]
   have hout:=out_ok (crashQ p n) n x A c (some ⟨ga,0,none⟩) d ys zs3 G3 hy
   intros;refine gr 76 79 ?_;refine sJ c85r13.eq_1 ?_
   refine⟨_,⟨_,rfl,.g (cellG_le hg13 h4)⟩,?_⟩
   refine sI ?_
   rw[← List.append_nil (PtL (crashQ p n) x A c (some ⟨ga,0,none⟩) d ys zs3)]
   refine(hout _ _).mono ?_
   rintro r' h' ⟨G4,L',rfl,hg4,rfl,A',c',ys',rfl,hy4⟩
   rw[List.append_nil]
   refine sI ?_
   intros;refine gN ?_
   exact go_l ⟨G4,A',c',ys',⟨hg4,hy4⟩,eE,rfl⟩
  ·have k3:¬ 1 < (crashQ p n).isr.length:=by have:=of_decide_eq_false k3;omega
   have hci:crashI (crashQ p n) n=crashQ p n:=if_neg k3
   rw[hci]
   intros;refine gN ?_
   exact go_l ⟨G3,A,c,ys,⟨.refl _,hy⟩,eE,rfl⟩
 rintro e h ⟨G4,A',c',ys',⟨hg4,hy4⟩,e0,rfl⟩
 refine go_keep [0] ?_
 refine sJ @e0 ?_
 have hcr:(crashI (crashQ p n) n).reps=p.reps:=by unfold crashI;split <;> rfl
 have hcI:I64P (crashI (crashQ p n) n):=by
  have h1:I64 (crashQ p n).leader:=by
   unfold crashQ
   dsimp only
   split
   ·unfold I64;decide
   ·exact hI.2.1
  unfold crashI
  split <;> exact⟨hI.1,h1,hI.2.2⟩
 have hcin:∀ m∈(crashI (crashQ p n) n).isr,m∈idsR p.reps:=by
  unfold crashI
  split
  ·exact outP_ids (p:=crashQ p n) n hok.2.1.2
  ·exact hok.2.1.2
 generalize crashI (crashQ p n) n=p3 at *
 have hset:=ptL_set p3 k (downR r t) x A' c' (some ⟨ga,0,none⟩) d ys' zs3
 have hps:(setR p3 k (downR r t)).reps=p.reps.set k (downR r t):=by show p3.reps.set _ _=_;rw[hcr]
 have hraise:=raise_ok (setR p3 k (downR r t)) x A' c' (some ⟨ga,0,none⟩) d ys' zs3 G4 hy4 (by rw[hps];exact cells_imp hz3 fun _ _ h=>RE.le hg4 h) (by rw[hps];exact okIds_set hr rfl (okIds_of hok))
  (fun m hm=>by rw[hps,ids_set (y:=downR r t) hr rfl];exact hcin m hm) (by rw[hps];exact smW_of <| smR_set hsm.1 ⟨smL_torn hsr.1,by rw[hlen];exact hsr.2.1,hsr.2.2⟩) hcI
 rw[hset]at hraise
 intros;try refine go_seq ?_
 intros;refine gr 79 81 ?_;refine sJ c85r14.eq_1 ?_
 rw[← List.append_nil (PtL p3 x A' c' (some ⟨ga,0,none⟩) d ys' zs3)]
 refine(hraise _ _).mono ?_
 rintro r' h' ⟨G5,L',rfl,hg5,rfl,zs',rfl,hz'⟩
 rw[List.append_nil]
 refine sI ?_
 intros;try refine go_seq ?_
 intros;refine gr 0 0 ?_;refine sJ c85r15.eq_1 ?_
 intros
 refine go_ret (retQ_o _ rfl (List.Sublist.refl _) noRegs_pt (chg_0 ?_ hz' (raiseP_i (p:=setR p3 k (downR r t)) hcI)))
 rw[(raiseP_same (setR p3 k (downR r t))).2.2.2.1]
 exact hy4
theorem Crash_ok(p:Pt)(cs:List Value)(n t:Int)(G:Nat→Option Obj)(hp:PE G p cs)(hsm:smP p)(hn:I64 n)(ht:I64 t):FnD Tryz.prog 35 #[.agg cs.toArray,.int .i64 n,.int .i64 t] G (PtR (ofP p n (crashF n t))):=by
 have hp0:=hp
 obtain⟨A,c,B,d,rfl,-,-,hI⟩:=hp
 refine F35.fnD (by simp) (go_of ?_)
 unfold c35
 unfold cellT at hp0 ⊢
 intros;refine gr 0 0 ?_;refine sJ c35r0.eq_1 ?_
 intro b4 hb4 b5 hb5
 refine sI ?_
 intros
 refine go_gx (gx_blk_at [_] _) ?_
 rintro h' ⟨G1,rfl,hg1,f5⟩
 refine go_gx (gx_blk_at [_] _) ?_
 rintro h' ⟨G2,rfl,hg2,f4⟩
 have f5:=cellG_le hg2 (f5 0 _ rfl)
 have f4:=f4 0 _ rfl
 rw[add_off]at f4 f5
 have hof:=of_ok p _ n 85 #[.pointer (some ⟨b5,0,none⟩),.pointer (some ⟨b4,0,none⟩)] (crashF n t p) G2 (hp0.le (hg1.trans hg2)) hsm hn fun hok k r _ hr=>Crash1_ok p n t b5 b4 k r G2 hok hsm hI hn ht f5 f4 hr
 rw[← ofP_eq]at hof
 intros;refine gr 8 14 ?_;refine sJ c35r1.eq_1 ?_
 refine⟨_,⟨_,rfl,.g f4⟩,?_⟩
 refine sI ?_
 refine(hof _ _).mono ?_
 rintro r h' ⟨G2,rfl,hg2,cs2,rfl,hpe⟩
 have hpe0:=hpe
 obtain⟨A2,c2,B2,d2,rfl,-⟩:=hpe
 unfold cellT at hpe0 ⊢
 refine sI ?_
 intros;refine rV ?_;simp only[push_cast,Nat.reduceBEq]
 exact⟨_,rfl,hpe0⟩
theorem F25:Fun Tryz.prog 25 19 v25 c25 o25:=Fun.mkA Tryz.func25 Tryz.ntmps25
theorem F66:Fun Tryz.prog 66 90 v66 c66 o66:=Fun.mkA Tryz.func66 Tryz.ntmps66
theorem movedD(x:Batch)(base:Int)(cs:List Value)(G:Nat→Option Obj)(hx:BE G x cs)(hbi:I64 base):FnD Tryz.prog 67 #[.agg cs.toArray,.int .i64 base] G (fun G' r=>∃ cs',r=.tuple #[.agg cs'.toArray,.int .i64 (movedB x base).2]∧BE G' (movedB x base).1 cs') :=
 FnO.fnD (L1:=[]) (Moved_ok x base cs G hx hbi) fun G' L' v ⟨cs',h1,h2⟩ _ L D=>(OwnBt.gx h2).mono fun h' ⟨G2,e,hg,hb⟩=>⟨G2,e,hg,cs',h1,hb⟩
theorem putM_len(l:List Ep)(n s:Int):(putM l n s).1.length≤l.length+1:=by
 unfold putM
 split
 ·simp
 ·split
  ·simp
  ·repeat' split
   all_goals simp
theorem EPutN(l:List Ep)(n s:Int)(v:Value)(G:Nat→Option Obj)(hl:SEp G v l)(hb:l.length≤1000000)(in1:I64 n)(is1:I64 s):
  FnO Tryz.prog 70 #[v,.int .i64 n,.int .i64 s] G [] (fun _ L' r=>∃ A c ys,r=.tuple #[.slice A (putM l n s).1.length c,.int .i64 (putM l n s).2]∧Cells EpE 2 (putM l n s).1 ys∧L'=[.row (.slice A (putM l n s).1.length c) 151 2 (putM l n s).1.length ys]):=fun L D =>
 (EPut_ok l n s v G hl hb in1 is1 L D).gx fun v h' ⟨G',L',he,hg,u,hr,ys,hc,hL⟩=>by
  subst he hL
  exact(gx_knowS (.head _)).mono fun h' ⟨h1,A,c,h2,h3,h4⟩=>⟨G',_,h1,hg,A,c,ys,by rw[hr,h2],hc,by rw[h2]⟩
def BaseR(q:(Pt × Int) × Int)(bb:Nat)(C:List Kx.Item):Prop:=∃ v,C=[.blk bb [.int .i64 v]]∧(q.1.2=0→v=q.2)
theorem PAppend1_ok(p:Pt)(b:Batch)(cb:List Value)(b3 bb:Nat)(G:Nat→Option Obj)(hok:okP p)(hsm:smP p)(hI:I64P p)(hb:BE G b cb)(h3:∀ j u,cb[j]?=some u→cellG G ⟨b3,j,none⟩=some u):
  Does G 66 #[.pointer (some ⟨b3,0,none⟩),.pointer (some ⟨bb,0,none⟩)] p (appF b p).1 [.blk bb [.int .i64 0]] (BaseR (appF b p) bb):=by
 intro G1 x A c B d ys zs hg hy hz
 have hb:=BE.le hg hb
 have h3:∀ j u,cb[j]?=some u→cellG G1 ⟨b3,j,none⟩=some u:=fun j u h=>cellG_le hg (h3 j u h)
 rw[show(#[.pointer (some ⟨x,0,none⟩)]++#[.pointer (some ⟨b3,0,none⟩),.pointer (some ⟨bb,0,none⟩)]:Array Value)=#[.pointer (some ⟨x,0,none⟩),.pointer (some ⟨b3,0,none⟩),.pointer (some ⟨bb,0,none⟩)]from rfl]
 have hn0:NoRegs (PtL p x A c B d ys zs++[.blk bb [.int .i64 0]]):=noRegs_blk (noRegs_row (noRegs_row (noRegs_blk noRegs_nil)))
 have herr:∀ (e v:Int) (q:Pt) (G':Nat→Option Obj),e≠0→∀ w,appF b p=((q,e),w)→ChgR (appF b p).1 x (BaseR (appF b p) bb) G' [.blk bb [.int .i64 v]] (.int .i64 e):=fun e v q G' he w hq=>by
  rw[hq]
  exact⟨rfl,[],_,rfl,⟨v,rfl,fun h=>absurd h he⟩,fun _=>rfl,fun h=>absurd h he⟩
 refine F66.fnO (by simp) hn0 (go_of ?_)
 unfold c66
 intros;refine gr 0 0 ?_;refine sJ c66r0.eq_1 ?_
 intros;try refine go_seq ?_
 intros;try refine go_seq ?_
 intros;refine gr 8 13 ?_;refine sJ c66r1.eq_1 ?_
 refine⟨_,ldN_blk (cs:=cellT p A c B d) (.head _) rfl,?_⟩
 refine sI ?_
 intros;refine gc ?_;refine sI ?_
 refine gb (fun k1=>?_) (fun k1=>?_)
 ·have k1:=of_decide_eq_true k1
  intros;refine gr 0 0 ?_;refine sJ c66r2.eq_1 ?_
  intros
  refine go_ret (retQ_o [.blk bb [.int .i64 0]] rfl (by simp[PtL]) (noRegs_blk noRegs_nil) (herr 180 0 p _ (by decide) 0 ?_))
  rw[appF,if_pos k1]
 have k1:=of_decide_eq_false k1
 intros;refine gN ?_
 intros;try refine go_seq ?_
 intros;try refine go_seq ?_
 (intros;try refine go_st ?_);refine go_q 14 25 (by decide) ?_;refine sJ c66r3.eq_1 ?_
 refine⟨_,ldN_blk (cs:=cellT p A c B d) (.head _) rfl,?_⟩
 refine sI ?_
 refine⟨_,ldN_blk (cs:=cellT p A c B d) (.head _) rfl,?_⟩
 refine sI ?_
 intros;refine gc ?_;refine sI ?_
 refine gb (fun k2=>?_) (fun k2=>?_)
 ·have k2:=of_decide_eq_true k2
  intros;refine gr 0 0 ?_;refine sJ c66r4.eq_1 ?_
  intros
  refine go_ret (retQ_o [.blk bb [.int .i64 0]] rfl (by simp[PtL]) (noRegs_blk noRegs_nil) (herr 181 0 p _ (by decide) 0 ?_))
  rw[appF,if_neg k1,if_pos k2]
 have k2:=of_decide_eq_false k2
 -- the leader is there
 obtain⟨r0,hr0,hl0,hu0⟩:∃ r∈p.reps,r.id=p.leader∧r.up=true:=by
  rcases hok.2.2 with h | ⟨⟨r,hr,h⟩,-⟩
  ·omega
  ·exact⟨r,hr,h⟩
 obtain⟨k,r,hk,hr,hrl⟩:=atR_of (l:=p.reps) (n:=p.leader) (List.mem_map.2 ⟨r0,hr0,hl0⟩)
 have hkl:=(List.getElem?_eq_some_iff.1 hr).1
 intros;refine gN ?_
 refine go_gx (gx_know (.tail _ (.head _)) (by omega)) ?_
 rintro h' ⟨rfl,ga,c9,he,-,-⟩
 cases he
 have hpt:ptrR (some ⟨ga,0,none⟩) (some k)=some ⟨ga,k * 7,none⟩:=congrArg some (add_mk _ _)
 intros;try refine go_seq ?_
 intros;refine gr 26 33 ?_;refine sJ c66r5.eq_1 ?_
 refine⟨_,ldN_blk (cs:=cellT p A c (some ⟨ga,0,none⟩) d) (.head _) rfl,?_⟩
 refine sI ?_
 refine(at_own p x A c (some ⟨ga,0,none⟩) d ys zs p.leader _ [.blk bb [.int .i64 0]] (List.Perm.refl _) hy hz hI.2.1 (okIds_of hok)).mono ?_
 rintro _ _ ⟨rfl,rfl⟩
 rw[hk,hpt]
 refine sI ?_
 obtain⟨B2,d2,rfl,-⟩:=id hb
 obtain⟨cs,hre,hcl,hld⟩:=hz.get hr
 have hre0:=hre
 have hsr:=hsm.1 r (List.mem_of_getElem? hr)
 have hend:=pend_ok r cs G1 hre hsr.1 (by have:=hsr.2.1;omega)
 have hei:=EndL_i r.log
 have hmov:=movedD b (EndL r.log) _ G1 hb (by unfold I64;omega)
 have happ:appF b p=if (movedB b (EndL r.log)).2≠0 then((p,(movedB b (EndL r.log)).2),0)else
   (if (appL r.log { (movedB b (EndL r.log)).1 with epoch:=p.epoch }).2≠0 then((p,(appL r.log { (movedB b (EndL r.log)).1 with epoch:=p.epoch }).2),(movedB b (EndL r.log)).1.base)else
    if (putM r.eps p.epoch (movedB b (EndL r.log)).1.base).2≠0 then((p,(putM r.eps p.epoch (movedB b (EndL r.log)).1.base).2),(movedB b (EndL r.log)).1.base)else
     ((raiseP (setR p k { r with log:=(appL r.log { (movedB b (EndL r.log)).1 with epoch:=p.epoch }).1,eps:=(putM r.eps p.epoch (movedB b (EndL r.log)).1.base).1 }),0),(movedB b (EndL r.log)).1.base)):=by
  rw[appF,if_neg k1,if_neg (by omega),hk]
  dsimp only
  rw[hr]
 generalize EndL r.log=en at *
 generalize hmb:(movedB b en).1=mb at *
 generalize hme:(movedB b en).2=me at *
 obtain⟨A1,c1,B1,d1,rfl,q1,q2,q3,q4⟩:=hre
 unfold cellP at hend
 unfold cellH at hmov
 intros;try refine go_seq ?_
 refine go_cut (fun e h=>∃ (G2:Nat→Option Obj) (b6:Nat) (cs6:List Value),(Gle G1 G2∧BE G2 mb cs6)∧e 0=.pointer (some ⟨x,0,none⟩)∧e 2=.pointer (some ⟨bb,0,none⟩)∧e 5=.pointer (some ⟨ga,k * 7,none⟩)∧e 6=.pointer (some ⟨b6,0,none⟩)∧e 7=.int .i64 me∧h=⟨G2,.blk b6 cs6 :: (PtL p x A c (some ⟨ga,0,none⟩) d ys zs++[.blk bb [.int .i64 0]]),[]⟩) ?_ ?_
 ·(intros;try refine go_st ?_);refine go_z _ (List.Sublist.refl _) (by decide) ?_;refine sJ c66r6.eq_1 ?_
  refine⟨_,⟨_,_,rfl,rfl,rfl,fun j u hu=>.g (by rw[add_mk];exact h3 j u hu)⟩,?_⟩
  unfold cellH
  refine sI ?_
  refine⟨_,ldN_rowN (.tail _ (.head _)) hcl hld,?_⟩
  unfold cellP
  refine sI ?_
  refine⟨?_,?_⟩
  ·refine(hend _ _).mono ?_;rintro _ _ ⟨rfl,rfl⟩;refine sI ?_
   refine⟨?_,?_⟩
   ·refine(hmov _ _).mono ?_
    rintro r' h' ⟨G2,rfl,hg2,cs6,rfl,hbe⟩
    have hbe0:=hbe
    obtain⟨B6,d6,rfl,-⟩:=hbe
    unfold cellH
    refine sI ?_
    refine⟨grow_G hg2,?_⟩
    refine sI ?_
    intro b6 hb6
    refine⟨grow_L hg2 (.cons _ (List.Sublist.refl _)),?_⟩
    refine sI ?_
    refine stX_blk [] _ rfl (by simp) ⟨rfl,rfl⟩ ?_
    refine sI ?_
    refine⟨grow_L hg2 (.cons _ (List.Sublist.refl _)),?_⟩
    refine sI ?_
    exact go_l ⟨G2,b6,_,⟨hg2,hbe0⟩,eE,eE,eE,eE,eE,rfl⟩
   ·intro b6 hb6
    refine⟨grow_L (fun _ _ h=>h) (.cons _ (List.Sublist.refl _)),?_⟩
    refine sI ?_
    refine(hmov _ _).mono ?_
    rintro r' h' ⟨G2,rfl,hg2,cs6,rfl,hbe⟩
    have hbe0:=hbe
    obtain⟨B6,d6,rfl,-⟩:=hbe
    unfold cellH
    refine sI ?_
    refine⟨grow_L hg2 (.cons _ (List.Sublist.refl _)),?_⟩
    refine sI ?_
    refine stX_blk [] _ rfl (by simp) ⟨rfl,rfl⟩ ?_
    refine sI ?_
    refine⟨grow_L hg2 (.cons _ (List.Sublist.refl _)),?_⟩
    refine sI ?_
    exact go_l ⟨G2,b6,_,⟨hg2,hbe0⟩,eE,eE,eE,eE,eE,rfl⟩
  ·intro b6 hb6
   refine⟨grow_L (fun _ _ h=>h) (.cons _ (List.Sublist.refl _)),?_⟩
   refine sI ?_
   refine(hend _ _).mono ?_;rintro _ _ ⟨rfl,rfl⟩;refine sI ?_
   refine⟨grow_L (fun _ _ h=>h) (.cons _ (List.Sublist.refl _)),?_⟩
   refine sI ?_
   refine(hmov _ _).mono ?_
   rintro r' h' ⟨G2,rfl,hg2,cs6,rfl,hbe⟩
   have hbe0:=hbe
   obtain⟨B6,d6,rfl,-⟩:=hbe
   unfold cellH
   refine sI ?_
   refine⟨grow_L hg2 (.cons _ (List.Sublist.refl _)),?_⟩
   refine sI ?_
   refine stX_blk [] _ rfl (by simp) ⟨rfl,rfl⟩ ?_
   refine sI ?_
   refine⟨grow_L hg2 (.cons _ (List.Sublist.refl _)),?_⟩
   refine sI ?_
   exact go_l ⟨G2,b6,_,⟨hg2,hbe0⟩,eE,eE,eE,eE,eE,rfl⟩
 rintro e h ⟨G2,b6,cs6,⟨hg2,hbe⟩,e0,e2,e5,e6,e7,rfl⟩
 refine go_keep [0,2,5,6,7] ?_
 refine sJ5 @e0 @e2 @e5 @e6 @e7 ?_
 intros;refine gN ?_
 intros;try refine go_seq ?_
 intros;try refine go_seq ?_
 intros;refine gr 42 43 ?_;refine sJ c66r7.eq_1 ?_
 intros;refine gc ?_;refine sI ?_
 refine gb (fun k3=>?_) (fun k3=>?_)
 ·have k3:=of_decide_eq_true k3
  intros;refine gr 44 45 ?_;refine sJ c66r8.eq_1 ?_
  intros
  refine go_ret (retQ_o [.blk bb [.int .i64 0]] rfl (by simp[PtL]) (noRegs_blk noRegs_nil) (herr me 0 p _ k3 0 ?_))
  rw[happ,if_pos k3]
 have k3:me=0:=by simpa using k3
 rw[if_neg (fun h=>h k3)]at happ
 obtain⟨B6,d6,rfl,hb6,i1,i2,i3,i4,i5⟩:=hbe
 have hbe2:BE G2 { mb with epoch:=p.epoch } (cellH { mb with epoch:=p.epoch } (.slice B6 mb.recs.length d6)):=⟨B6,d6,rfl,hb6,i1,i2,i3,hI.1,i5⟩
 unfold cellH at hbe2 ⊢
 intros;refine gN ?_
 intros;try refine go_seq ?_
 (intros;try refine go_st ?_);refine go_y _ (List.Sublist.refl _) (by decide) ?_;refine sJ c66r9.eq_1 ?_
 refine⟨_,ldN_blk (cs:=cellT p A c (some ⟨ga,0,none⟩) d) (.tail _ (.head _)) rfl,?_⟩
 refine sI ?_
 refine⟨_,ldN_blk (.head _) rfl,?_⟩
 refine sJ c66r10.eq_1 ?_
 refine stX_blk [] _ rfl (by simp) ⟨rfl,rfl⟩ ?_
 refine sI ?_
 refine stX_blk [_,_,_,_] [] rfl (by simp) ⟨rfl,rfl⟩ ?_
 refine sI ?_
 intros;try refine go_seq ?_
 refine go_ghost (h':=⟨G2,.blk b6 [.int .i64 mb.base,.int .i64 mb.last,.int .i64 mb.src,.int .i64 p.epoch,.int .i64 mb.pid,.int .i64 mb.gen,.int .i64 mb.seq,.bool mb.txn,.int .i64 mb.ctl,.slice B6 mb.recs.length d6] :: (PtL p x A c (some ⟨ga,0,none⟩) d ys zs++[.blk bb [.int .i64 mb.base]]),[]⟩) (ghost_perm (List.Perm.refl _)) ?_
 have hldl:=ld_log hld
 have hca:=CAppend_ok r.log { mb with epoch:=p.epoch } _ _ G2 (LE.le hg2 ⟨A1,c1,rfl,q1,q3⟩) hsr.1 hsr.2.1 hbe2
 have hmx:=mb.base
 unfold cellL at hca hldl
 dsimp only at hca
 have hb10:∀ j u,([.int .i64 mb.base,.int .i64 mb.last,.int .i64 mb.src,.int .i64 p.epoch,.int .i64 mb.pid,.int .i64 mb.gen,.int .i64 mb.seq,.bool mb.txn,.int .i64 mb.ctl,.slice B6 mb.recs.length d6]:List Value)[j]?=some u→([.int .i64 mb.base,.int .i64 mb.last,.int .i64 mb.src,.int .i64 p.epoch,.int .i64 mb.pid,.int .i64 mb.gen,.int .i64 mb.seq,.bool mb.txn,.int .i64 mb.ctl,.slice B6 mb.recs.length d6]:List Value)[0+j]?=some u:=fun j u h=>by rw[Nat.zero_add];exact h
 generalize hap:appL r.log { mb with epoch:=p.epoch }=ap at *
 obtain⟨al,ae⟩:=ap
 dsimp only at happ
 intros;try refine go_seq ?_
 intros;try refine go_seq ?_
 (intros;try refine go_st ?_);refine go_w _ (List.Sublist.refl _) (by decide) ?_;refine sJ c66r11.eq_1 ?_
 refine⟨_,ldN_rowN (.tail _ (.tail _ (.head _))) rfl hldl,?_⟩
 refine sI ?_
 refine⟨_,ldN_blkA (.head _) rfl hb10,?_⟩
 refine sI ?_
 refine(hca _ _).mono ?_
 rintro v h' ⟨G3,rfl,hg3,cs7,rfl,hle⟩
 dsimp only at hle
 have hle0:=hle
 obtain⟨A7,c7,rfl,hsl7,hlim7⟩:=hle
 unfold cellL
 refine sI ?_
 refine again_0 ?_
 refine sI ?_
 refine stX_row [_,_] _ rfl (by simp;have:=hz.len;omega) ⟨rfl,rfl⟩ ?_
 refine sI ?_
 refine again_0 ?_
 refine sI ?_
 have hz2:Cells (RE G3) 7 (p.reps.set k { r with log:=al }) (splice zs (k * 7+2) [.int .i64 al.limit,.int .i64 al.start,.slice A7 al.segs.length c7]) :=
  Cells.setF (E:=RE G3) (x':={ r with log:=al }) (cells_imp hz fun _ _ h=>RE.le (hg2.trans hg3) h) hr (by simp) fun cs h hl=>by
   obtain⟨A5,c5,B5,d5,rfl,q1,q2,q3,q4⟩:=h
   exact⟨A7,c7,B5,d5,rfl,hsl7,q2,hlim7,q4⟩
 refine go_ghost (h':=⟨G3,.blk b6 [.int .i64 mb.base,.int .i64 mb.last,.int .i64 mb.src,.int .i64 p.epoch,.int .i64 mb.pid,.int .i64 mb.gen,.int .i64 mb.seq,.bool mb.txn,.int .i64 mb.ctl,.slice B6 mb.recs.length d6] :: (PtL p x A c (some ⟨ga,0,none⟩) d ys (splice zs (k * 7+2) [.int .i64 al.limit,.int .i64 al.start,.slice A7 al.segs.length c7])++[.blk bb [.int .i64 mb.base]]),[]⟩) (ghost_perm (List.Perm.refl _)) ?_
 generalize splice zs (k * 7+2) [.int .i64 al.limit,.int .i64 al.start,.slice A7 al.segs.length c7]=zs2 at *
 intros;try refine go_seq ?_
 intros;refine gr 65 66 ?_;refine sJ c66r12.eq_1 ?_
 intros;refine gc ?_;refine sI ?_
 refine gb (fun k4=>?_) (fun k4=>?_)
 ·have k4:=of_decide_eq_true k4
  intros;refine gr 67 68 ?_;refine sJ c66r13.eq_1 ?_
  intros
  refine go_ret (retQ_o [.blk bb [.int .i64 mb.base]] rfl (by simp[PtL]) (noRegs_blk noRegs_nil) (herr ae mb.base p _ k4 mb.base ?_))
  rw[happ,if_pos k4]
 have k4:ae=0:=by simpa using k4
 rw[if_neg (fun h=>h k4)]at happ
 clear hld hldl hcl
 have hr2:=set_get (y:={ r with log:=al }) hr
 obtain⟨cs,hre2,hcl,hld⟩:=hz2.get hr2
 obtain⟨A8,c8,B8,d8,rfl,q1,q2,q3,q4⟩:=hre2
 have hput:=EPutN r.eps p.epoch mb.base _ G3 q2 (by have:=hsr.2.2;omega) hI.1 i1
 have hpl:=putM_len r.eps p.epoch mb.base
 generalize putM r.eps p.epoch mb.base=pp at *
 obtain⟨pl,pe⟩:=pp
 dsimp only at happ hput hpl
 intros;refine gN ?_
 intros;try refine go_seq ?_
 intros;try refine go_seq ?_
 (intros;try refine go_st ?_);refine go_w _ (List.Sublist.refl _) (by decide) ?_;refine sJ c66r14.eq_1 ?_
 refine⟨_,ldN_row (.tail _ (.tail _ (.head _))) (hld 5 _ rfl),?_⟩
 refine sI ?_
 refine⟨_,ldN_blk (cs:=cellT p A c (some ⟨ga,0,none⟩) d) (.tail _ (.head _)) rfl,?_⟩
 refine sI ?_
 refine⟨_,ldN_blk (b:=bb) (.tail _ (.tail _ (.tail _ (.tail _ (.head _))))) rfl,?_⟩
 refine sI ?_
 refine(hput _ _).mono ?_
 rintro v h' ⟨G4,L',rfl,hg4,A9,c9,ye,rfl,hye,rfl⟩
 refine sI ?_
 refine again_0 ?_
 refine sI ?_
 refine stX_row [_,_,_] _ rfl (by simp;have:=hz2.len;rw[List.length_set]at this;omega) ⟨rfl,rfl⟩ ?_
 refine sI ?_
 refine again_0 ?_
 refine sI ?_
 refine go_ghost (h':=⟨G4,[.row (.slice A9 pl.length c9) 151 2 pl.length ye,.blk b6 [.int .i64 mb.base,.int .i64 mb.last,.int .i64 mb.src,.int .i64 p.epoch,.int .i64 mb.pid,.int .i64 mb.gen,.int .i64 mb.seq,.bool mb.txn,.int .i64 mb.ctl,.slice B6 mb.recs.length d6]]++(PtL p x A c (some ⟨ga,0,none⟩) d ys (splice zs2 (k * 7+5) [.slice A9 pl.length c9])++[.blk bb [.int .i64 mb.base]]),[]⟩) (ghost_perm (List.Perm.refl _)) ?_
 refine go_gx (gx_slv_at [] _ (by decide) hye) ?_
 rintro h' ⟨G5,rfl,hg5,hv5⟩
 have hz3:Cells (RE G5) 7 (p.reps.set k { r with log:=al,eps:=pl }) (splice zs2 (k * 7+5) [.slice A9 pl.length c9]):=by
  have:=Cells.setF (E:=RE G5) (o:=5) (us:=[.slice A9 pl.length c9]) (x':={ r with log:=al,eps:=pl }) (cells_imp hz2 fun _ _ h=>RE.le (hg4.trans hg5) h) hr2 (by simp) fun cs h hl=>by
   obtain⟨A5,c5,B5,d5,rfl,q1,q2,q3,q4⟩:=h
   exact⟨A5,c5,A9,c9,rfl,q1,hv5,q3,q4⟩
  rwa [List.set_set]at this
 generalize splice zs2 (k * 7+5) [.slice A9 pl.length c9]=zs3 at *
 refine go_ghost (h':=⟨G5,PtL p x A c (some ⟨ga,0,none⟩) d ys zs3++[.blk bb [.int .i64 mb.base]],[]⟩) (ghost_sub (.cons _ (List.Sublist.refl _))) ?_
 intros;try refine go_seq ?_
 intros;refine gr 85 86 ?_;refine sJ c66r15.eq_1 ?_
 intros;refine gc ?_;refine sI ?_
 refine gb (fun k5=>?_) (fun k5=>?_)
 ·have k5:=of_decide_eq_true k5
  intros;refine gr 87 88 ?_;refine sJ c66r16.eq_1 ?_
  intros
  refine go_ret (retQ_o [.blk bb [.int .i64 mb.base]] rfl (by simp[PtL]) (noRegs_blk noRegs_nil) (herr pe mb.base p _ k5 mb.base ?_))
  rw[happ,if_pos k5]
 have k5:pe=0:=by simpa using k5
 rw[if_neg (fun h=>h k5)]at happ
 have hal:=appL_ok (l:=r.log) (b:={ mb with epoch:=p.epoch }) (by rw[hap];exact k4)
 rw[hap]at hal
 have hca2:=hal.2.2.1
 dsimp only at hca2
 have hraise:=raise_ok (setR p k { r with log:=al,eps:=pl }) x A c (some ⟨ga,0,none⟩) d ys zs3 G5 hy hz3 (okIds_set hr rfl (okIds_of hok)) (fun m hm=>by show m∈idsR (p.reps.set k _);rw[ids_set (y:={ r with log:=al,eps:=pl }) hr rfl];exact hok.2.1.2 m hm)
  (fun z hz=>by
   rcases List.mem_or_eq_of_mem_set hz with hz | rfl
   ·exact smW_of hsm.1 z hz
   ·exact⟨sm_of hca2,by have:=(chkL_0 hca2).2.2.2;show al.segs.length≤_;omega,by have:=hsr.2.2;show pl.length≤_;omega⟩) hI
 rw[ptL_set]at hraise
 rw[happ]
 intros;refine gN ?_
 intros;try refine go_seq ?_
 intros;refine gr 88 90 ?_;refine sJ c66r17.eq_1 ?_
 refine(hraise _ _).mono ?_
 rintro r' h' ⟨G6,L',rfl,hg6,rfl,zs',rfl,hz'⟩
 refine sI ?_
 intros;try refine go_seq ?_
 intros;refine gr 0 0 ?_;refine sJ c66r18.eq_1 ?_
 intros
 refine go_ret (retQ_o _ rfl (List.Sublist.refl _) (fun s cs hm=>?_) ⟨rfl,_,_,rfl,⟨mb.base,rfl,fun _=>rfl⟩,fun h=>absurd rfl h,fun _=>⟨A,c,some ⟨ga,0,none⟩,d,ys,zs',rfl,?_,hz',raiseP_i (p:=setR p k _) hI⟩⟩)
 ·rcases List.mem_append.1 hm with h | h
  ·exact noRegs_pt s cs h
  ·simp at h
 ·rw[(raiseP_same (setR p k { r with log:=al,eps:=pl })).2.2.2.1]
  exact hy
def AppR(q:(Pt × Int) × Int)(G:Nat→Option Obj)(r:Value):Prop:=∃ cs,r=.tuple #[.agg cs.toArray,.int .i64 q.2,.int .i64 q.1.2]∧PE G q.1.1 cs
theorem PAppend_ok(p:Pt)(b:Batch)(cs cb:List Value)(G:Nat→Option Obj)(hp:PE G p cs)(hsm:smP p)(hb:BE G b cb):FnD Tryz.prog 25 #[.agg cs.toArray,.agg cb.toArray] G (AppR (appP p b)):=by
 have hp0:=hp
 have hb0:=hb
 obtain⟨A,c,B,d,rfl,-,-,hI⟩:=hp
 obtain⟨B2,d2,rfl,-⟩:=hb
 refine F25.fnD (by simp) (go_of ?_)
 unfold c25
 unfold cellT at hp0 ⊢
 unfold cellH at hb0 ⊢
 intros;refine gr 0 0 ?_;refine sJ c25r0.eq_1 ?_
 intro b3 hb3 b5 hb5
 refine sI ?_
 intros
 refine go_gx (gx_blk_at [_,_] _) ?_
 rintro h' ⟨G1,rfl,hg1,f3⟩
 have hch:=change_ok p _ 66 #[.pointer (some ⟨b3,0,none⟩),.pointer (some ⟨b5,0,none⟩)] (appF b p).1 [.blk b5 [.int .i64 0]] (BaseR (appF b p) b5) G1 (hp0.le hg1) hsm (noRegs_blk noRegs_nil) (fun C h=>by obtain⟨v,rfl,-⟩:=h;exact noRegs_blk noRegs_nil) fun hok =>
  PAppend1_ok p b _ b3 b5 G1 hok hsm hI (BE.le hg1 hb0) fun j u hu=>by have:=f3 j u hu;rwa [add_mk]at this
 have hq:appP p b=if (chgQ p (appF b p).1).2=0 then(chgQ p (appF b p).1,(appF b p).2)else((noneP,(chgQ p (appF b p).1).2),0):=rfl
 intros;try refine go_seq ?_
 intros;refine gr 7 13 ?_;refine sJ c25r1.eq_1 ?_
 refine(hch _ _).mono ?_
 rintro r h' ⟨G2,L',rfl,hg2,⟨cs2,rfl,hpe⟩,-,hL⟩
 obtain⟨v,rfl,hv⟩:∃ v,L'=[.blk b5 [.int .i64 v]]∧((chgQ p (appF b p).1).2=0→v=(appF b p).2):=by
  rcases hL with⟨v,h1,h2⟩ | ⟨h1,h2⟩
  ·refine⟨v,h1,fun h=>h2 ?_⟩
   unfold chgQ at h
   split at h
   ·split at h
    ·assumption
    ·exact h
   ·rename_i h3;exact absurd h h3
  ·refine⟨0,h2,fun h=>?_⟩
   rw[chgQ,if_neg h1]at h
   exact absurd h h1
 generalize hcq:chgQ p (appF b p).1=cq at *
 have hpe0:=hpe
 obtain⟨A2,c2,B2,d2,rfl,-⟩:=hpe
 unfold cellT at hpe0 ⊢
 refine sI ?_
 intros;try refine go_seq ?_
 intros;try refine go_seq ?_
 intros;refine gr 13 14 ?_;refine sJ c25r2.eq_1 ?_
 intros;refine gc ?_;refine sI ?_
 refine gb (fun k1=>?_) (fun k1=>?_)
 ·have k1:=of_decide_eq_true k1
  intros;refine gr 15 17 ?_;refine sJ c25r3.eq_1 ?_
  refine stX_blk [] _ rfl (by simp) ⟨rfl,rfl⟩ ?_
  refine sI ?_
  intros
  refine go_ret (retQ_v (out:=[.agg #[.int .i64 0,.int .i64 0,.int .i64 0,.slice none 0 0,.slice none 0 0],.int .i64 0,.int .i64 cq.2]) ?_ ?_)
  ·simp[o25,resV,Kx.getR,Kx.getB,blkO,ldC,Env.set]
  rw[hq,if_neg k1]
  exact⟨_,rfl,none,0,none,0,rfl,slN,slN,i64_0,i64_0,i64_0⟩
 have k1:cq.2=0:=by simpa using k1
 intros;refine gN ?_
 intros;try refine go_seq ?_
 (intros;try refine go_st ?_);refine go_w _ (.cons_cons _ (.cons_cons _ (List.nil_sublist _))) (by decide) ?_;refine sJ c25r4.eq_1 ?_
 refine⟨_,ldN_blk (.head _) rfl,?_⟩
 refine sI ?_
 refine⟨⟨fun _ _ h=>h,.cons_cons _ (.cons_cons _ (List.nil_sublist _)),rfl⟩,?_⟩
 refine stX_blk [] _ rfl (by simp) ⟨rfl,rfl⟩ ?_
 refine sI ?_
 refine again_0 ?_
 refine sI ?_
 intros
 refine go_ret (retQ_v (out:=[.agg #[.int .i64 cq.1.epoch,.int .i64 cq.1.leader,.int .i64 cq.1.least,.slice A2 cq.1.isr.length c2,.slice B2 cq.1.reps.length d2],.int .i64 v,.int .i64 0]) ?_ ?_)
 ·simp[o25,resV,Kx.getR,Kx.getB,blkO,ldC,Env.set]
 rw[hq,if_pos k1]
 refine⟨_,?_,hpe0⟩
 rw[hv k1,k1]
 rfl
theorem F13:Fun Tryz.prog 13 64 v13 c13 o13:=Fun.mkA Tryz.func13 Tryz.ntmps13
theorem F15:Fun Tryz.prog 15 26 v15 c15 o15:=Fun.mkA Tryz.func15 Tryz.ntmps15
def newR(L0:Lg)(n:Int):Rp:=⟨n,true,L0,[],0⟩
theorem PNew_ok(l:List Int)(limit least:Int)(v:Value)(G:Nat→Option Obj)(hl:SlV G IE 1 v l)(hb:l.length≤100000)(hi:I64 least):FnD Tryz.prog 13 #[v,.int .i64 limit,.int .i64 least] G (PtR (newP l limit least)):=by
 have hl0:=hl
 obtain⟨A,c,rfl,hc,hmx,hA⟩:=hl
 refine F13.fnD (by simp) (go_of ?_)
 unfold c13
 intros;refine gr 0 0 ?_;refine sJ c13r0.eq_1 ?_
 intros;refine gr 13 18 ?_;refine sJ c13r1.eq_1 ?_
 refine(CNew_ok limit 0 G _ _).mono ?_
 rintro r h' ⟨G1,rfl,hg1,cs,rfl,hle⟩
 have hnp1:((newL limit 0).2=0∧RisesI l∧l.length≤5∧1≤least∧least≤(l.length:Int))→newP l limit least=(⟨1,l.headD 0,least,l,l.map (newR (newL limit 0).1)⟩,0):=fun h=>by unfold newP;rw[if_pos h];rfl
 have hnp0:¬ ((newL limit 0).2=0∧RisesI l∧l.length≤5∧1≤least∧least≤(l.length:Int))→newP l limit least=(noneP,1):=fun h=>by unfold newP;rw[if_neg h]
 have hl1:=hl0.le (E':=IE) hg1 fun _ _ h=>h
 generalize newL limit 0=nl at *
 obtain⟨L0,e0⟩:=nl
 dsimp only at hle hnp0 hnp1
 have hle0:=hle
 obtain⟨A3,c3,rfl,hs3,hlim⟩:=hle
 have hno:¬ (e0=0∧RisesI l∧l.length≤5∧1≤least∧least≤(l.length:Int))→∀ (fr:List Td) (e:Env),go none Tryz.prog 64 v13.1 v13.2 (retQ o13 fun v h=>PtR (newP l limit least) h.G v) (Td.s ((SC.reg false c13r3).seq .ret) :: fr) e ⟨G1,[.reg 8 [.int .i64 L0.limit,.int .i64 L0.start,.slice A3 L0.segs.length c3],.reg 6 [.int .i64 0,.int .i64 0,.int .i64 0,.slice none 0 0,.slice none 0 0]],[]⟩:=fun hn fr e=>by
  intros;refine gr 40 41 ?_;refine sJ c13r3.eq_1 ?_
  intros
  refine go_ret (retQ_v rfl ?_)
  rw[hnp0 hn]
  exact noneP_r _ _
 unfold cellL
 refine sI ?_
 intros;try refine go_seq ?_
 intros;try refine go_seq ?_
 intros;refine gr 18 39 ?_;refine sJ c13r2.eq_1 ?_
 refine gd (fun k1=>?_) (fun k1=>?_)
 ·have k1:=of_decide_eq_true k1
  refine sI ?_
  intros;refine gc ?_;refine sI ?_
  exact hno (fun h=>k1 h.1) _ _
 have k1:e0=0:=by simpa using k1
 refine sI ?_
 refine(rises_ok _ _ _ hl1 _ _).mono ?_;rintro _ _ ⟨rfl,rfl⟩;refine sI ?_
 refine gd (fun k2=>?_) (fun k2=>?_)
 ·have k2:risB l=false:=by simpa using k2
  refine sI ?_
  intros;refine gc ?_;refine sI ?_
  exact hno (fun h=>by have:=risB_t h.2.1;rw[k2]at this;cases this) _ _
 have k2:RisesI l:=risB_iff.1 (by simpa using k2)
 refine sI ?_
 refine gd (fun k3=>?_) (fun k3=>?_)
 ·have k3:=of_decide_eq_true k3
  refine sI ?_
  intros;refine gc ?_;refine sI ?_
  exact hno (fun h=>by have:=h.2.2.1;omega) _ _
 have k3:=of_decide_eq_false k3
 refine sI ?_
 refine gd (fun k4=>?_) (fun k4=>?_)
 ·have k4:=of_decide_eq_true k4
  refine sI ?_
  intros;refine gc ?_;refine sI ?_
  exact hno (fun h=>by have:=h.2.2.2.1;omega) _ _
 have k4:=of_decide_eq_false k4
 refine sI ?_
 intros;refine gc ?_;refine sI ?_
 refine gb (fun k5=>?_) (fun k5=>?_)
 ·have k5:=of_decide_eq_true k5
  exact hno (fun h=>by have:=h.2.2.2.2;omega) _ _
 have k5:=of_decide_eq_false k5
 rw[hnp1 ⟨k1,k2,by omega,by omega,by omega⟩]
 clear hno hnp0 hnp1
 obtain⟨y0,hy0⟩:∃ y,l[0]?=some y:=⟨l[0]'(List.length_pos_iff.2 k2.1),List.getElem?_eq_getElem _⟩
 have hhd:l.headD 0=y0:=by
  cases l with
  | nil=>cases hy0
  | cons a l=>cases hy0;rfl
 have hy0i:I64 y0:=by
  obtain⟨a,u,_,hu,_⟩:=hA.at1 hy0 [] []
  exact hu.2
 have hcl:=fun G2 (hg:Gle G1 G2)=>CloneI_ok l _ G2 (hl1.le (E':=IE) hg fun _ _ h=>h) (by omega)
 rw[hhd]
 obtain⟨A0,c0,he0,hc0,hm0,hA1⟩:=id hl1
 cases he0
 intros;refine gN ?_
 intros;try refine go_seq ?_
 refine go_cut (fun e h=>∃ (G2:Nat→Option Obj) (b10:Nat) (A4:Option Addr) (c4:Nat) (ys:List Value) (Lh:List Kx.Item),(Gle G1 G2∧Cells IE 1 l ys)∧e 10=.pointer (some ⟨b10,0,none⟩)∧e 0=.slice A l.length c∧h=⟨G2,Lh,[]⟩∧Lh.Perm [.blk b10 [.int .i64 1,.int .i64 y0,.int .i64 least,.slice A4 l.length c4,.slice none 0 0],.row (.slice A4 l.length c4) 3 1 l.length ys,.reg 8 [.int .i64 L0.limit,.int .i64 L0.start,.slice A3 L0.segs.length c3],.reg 6 [.int .i64 0,.int .i64 0,.int .i64 0,.slice none 0 0,.slice none 0 0]]) ?_ ?_
 ·(intros;try refine go_st ?_);refine go_z _ (List.Sublist.refl _) (by decide) ?_;refine sJ c13r4.eq_1 ?_
  refine hA1.y_l1 hy0 rfl rfl ?_
  rintro a1 ha1 u1 ⟨hu,-⟩
  cases hu
  refine sI ?_
  refine⟨?_,?_⟩
  ·refine(ownN_sl (hcl G1 (.refl _)) _ _).mono ?_
   rintro r h' ⟨G2,L',rfl,hg2,A4,c4,ys,rfl,-,hys,rfl⟩
   refine⟨grow_L hg2 (.cons _ (List.Sublist.refl _)),?_⟩
   refine sI ?_
   intro b10 hb10
   refine⟨grow_L hg2 (.cons _ (.cons _ (List.Sublist.refl _))),?_⟩
   refine sI ?_
   refine stX_blk [] _ rfl (by simp) ⟨rfl,rfl⟩ ?_
   refine sI ?_
   refine⟨grow_L hg2 (.cons _ (.cons _ (List.Sublist.refl _))),?_⟩
   refine sI ?_
   exact go_l ⟨G2,b10,A4,c4,ys,_,⟨hg2,hys⟩,eE,eE,rfl,List.Perm.refl _⟩
  ·intro b10 hb10
   refine⟨grow_L (fun _ _ h=>h) (.cons _ (List.Sublist.refl _)),?_⟩
   refine sI ?_
   refine(ownN_sl (hcl G1 (.refl _)) _ _).mono ?_
   rintro r h' ⟨G2,L',rfl,hg2,A4,c4,ys,rfl,-,hys,rfl⟩
   refine⟨grow_L hg2 (.cons _ (.cons _ (List.Sublist.refl _))),?_⟩
   refine sI ?_
   refine stX_blk [_] _ rfl (by simp) ⟨rfl,rfl⟩ ?_
   refine sI ?_
   refine⟨grow_L hg2 (.cons _ (.cons _ (List.Sublist.refl _))),?_⟩
   refine sI ?_
   exact go_l ⟨G2,b10,A4,c4,ys,_,⟨hg2,hys⟩,eE,eE,rfl,List.Perm.swap _ _ _⟩
 rintro e h ⟨G2,b10,A4,c4,ys,Lh,⟨hg2,hys⟩,e10,e0,rfl,hperm⟩
 refine go_keep [0,10] ?_
 refine sJ2 @e0 @e10 ?_
 intros
 refine go_ghost (ghost_perm hperm) ?_
 refine go_gx (gx_slv_at [_] _ (by decide) hys) ?_
 rintro h' ⟨G3,rfl,hg3,hv3⟩
 have hg23:=hg2.trans hg3
 have hA3:=hA1.le (E':=IE) hg23 fun _ _ h=>h
 have hs3:=SlSE.le hg23 hs3
 refine go_ghost (ghost_nil none 50 7) ?_
 have hml:∀ k,((l.take k).map (newR L0)).length≤l.length:=fun k=>by simp;omega
 intros;try refine go_seq ?_
 refine go_cut (fun e h=>∃ (u:Value) (zc:List Value),Cells (RE G3) 7 (l.map (newR L0)) zc∧e 10=.pointer (some ⟨b10,0,none⟩)∧h=⟨G3,[.row u 50 7 l.length zc,.blk b10 [.int .i64 1,.int .i64 y0,.int .i64 least,.slice A4 l.length c4,u],.reg 8 [.int .i64 L0.limit,.int .i64 L0.start,.slice A3 L0.segs.length c3],.reg 6 [.int .i64 0,.int .i64 0,.int .i64 0,.slice none 0 0,.slice none 0 0]],[]⟩) ?_ ?_
 ·intros;try refine go_seq ?_
  intros;refine gr 0 0 ?_;refine sJ c13r5.eq_1 ?_
  (intros;try refine go_st ?_)
  refine go_loop (fun e h=>∃ (k:Nat) (u:Value) (zc:List Value),(k≤l.length∧Cells (RE G3) 7 ((l.take k).map (newR L0)) zc)∧e 50=.int .i64 k∧e 49=.int .i64 l.length∧e 48=.slice A l.length c∧e 10=.pointer (some ⟨b10,0,none⟩)∧h=⟨G3,[.row u 50 7 ((l.take k).map (newR L0)).length zc,.blk b10 [.int .i64 1,.int .i64 y0,.int .i64 least,.slice A4 l.length c4,u],.reg 8 [.int .i64 L0.limit,.int .i64 L0.start,.slice A3 L0.segs.length c3],.reg 6 [.int .i64 0,.int .i64 0,.int .i64 0,.slice none 0 0,.slice none 0 0]],[]⟩) (fun e h=>l.length - iv (e 50)) ?_ ?_
  ·exact⟨0,.slice none 0 0,[],⟨Nat.zero_le _,.nil⟩,eE,eE,eE,eE,rfl⟩
  rintro e h ⟨k,u,zc,⟨hk,hzc⟩,e50,e49,e48,e10,rfl⟩
  refine go_keep [10,48,49,50] ?_
  refine sJ4 @e10 @e48 @e49 @e50 ?_
  intros;refine gr 0 0 ?_;refine sJ c13r6.eq_1 ?_
  intros;refine gc ?_;refine sI ?_
  refine gb (fun ht=>?_) (fun ht=>?_)
  ·have ht:k < l.length:=by have:=of_decide_eq_true ht;omega
   have hw:=inc_i k c (by omega) hmx
   obtain⟨n,hn⟩:∃ s,l[k]?=some s:=⟨l[k],List.getElem?_eq_getElem (by omega)⟩
   have htk:(l.take (k+1)).map (newR L0)=(l.take k).map (newR L0)++[newR L0 n]:=by rw[take_snoc' hn,List.map_append];rfl
   have hkl:=hml k
   intros;refine gN ?_
   intros;try refine go_seq ?_
   intros;refine gr 52 54 ?_;refine sJ c13r7.eq_1 ?_
   refine hA3.x_l1 hn rfl rfl ?_
   rintro a1 ha1 u1 ⟨hu,hni⟩
   cases hu
   refine sI ?_
   have hre:RE G3 (newR L0 n) [.int .i64 n,.bool true,.int .i64 L0.limit,.int .i64 L0.start,.slice A3 L0.segs.length c3,.slice none 0 0,.int .i64 0]:=⟨A3,c3,none,0,rfl,hs3,slN,hlim,hni,i64_0⟩
   intros;refine gr 54 62 ?_;refine sJ c13r8.eq_1 ?_
   refine⟨_,ldN_blk (.tail _ (.head _)) rfl,?_⟩
   refine sI ?_
   intro bk hbk
   refine app1 (L1:=[]) (L2:=[_,_,_]) (E:=RE G3) (x:=newR L0 n) rfl hre rfl (by simp[Value.oneCell']) hzc (by omega) (by omega) fun A' c' zc' hzc'=>?_
   rw[← htk]at hzc' ⊢
   refine sI ?_
   refine stX_blk [_,_] [_,_] rfl (by simp) ⟨rfl,rfl⟩ ?_
   refine sI ?_
   intros;refine gN ?_
   refine go_ghost (ghost_sub (.cons _ (List.Sublist.refl _))) ?_
   intros;refine gr 62 63 ?_;refine sJ2 c13r9.eq_1 @hw ?_
   (intros;try refine go_st ?_)
   refine go_l ⟨⟨k+1,_,zc',⟨by omega,hzc'⟩,eE,eE,eE,eE,rfl⟩,?_⟩
   refine sI ?_
   omega
  ·have ht:k=l.length:=by have:=of_decide_eq_false ht;omega
   subst ht
   rw[List.take_length]at hzc ⊢
   rw[List.length_map]
   refine go_exit ?_
   refine sI ?_
   intros;refine gN ?_
   exact go_l ⟨u,zc,hzc,eE,rfl⟩
 rintro e h ⟨u,zc,hzc,e10,rfl⟩
 refine go_keep [10] ?_
 refine sJ @e10 ?_
 intros
 refine go_gx (gx_slv_at [] _ (by decide) hzc) ?_
 rintro h' ⟨G4,rfl,hg4,hv4⟩
 obtain⟨A5,c5,rfl,hc5,hm5,hA5⟩:=hv4
 rw[List.length_map]
 intros;try refine go_seq ?_
 intros;refine gr 63 64 ?_;refine sJ c13r10.eq_1 ?_
 refine⟨_,ldN_blkA (us:=[.int .i64 1,.int .i64 y0,.int .i64 least,.slice A4 l.length c4,.slice A5 l.length c5]) (.head _) rfl (fun j u h=>by rw[Nat.zero_add];exact h),?_⟩
 refine sI ?_
 intros;refine rV ?_;simp only[push_cast,Nat.reduceBEq]
 refine⟨_,rfl,A4,c4,A5,c5,?_,hv3.le (E':=IE) hg4 fun _ _ h=>h,?_,show I64 1 from by unfold I64;decide,hy0i,hi⟩
 ·unfold cellT
  dsimp only
  rw[List.length_map]
 ·show SlV G4 (RE G4) 7 (.slice A5 (l.map (newR L0)).length c5) (l.map (newR L0))
  exact⟨A5,c5,rfl,hc5,hm5,hA5.le (fun _ _ h=>h) fun _ _ h=>RE.le hg4 h⟩
theorem rep_fz{G:Nat→Option Obj}{l:List Rp}{B:Option Addr}{n d:Nat}{k:Nat}{r:Rp}(h:SlV G (RE G) 7 (.slice B n d) l)(hr:l[k]?=some r):
  ∃ a A1 c1 B1 d1,B=some a∧RE G r (cellP r A1 c1 B1 d1)∧(∀ L D,LdN ⟨G,L,D⟩ (.pointer (some ((a.add (k * 7)).add 2))) (some 3) (.agg (cellL r.log A1 c1).toArray))∧∀ L D o u,(cellP r A1 c1 B1 d1)[o]?=some u→LdN ⟨G,L,D⟩ (.pointer (some ((a.add (k * 7)).add o))) none u:=by
 obtain⟨A0,d0,he,-,-,hA⟩:=h
 cases he
 obtain⟨a,cs,ha,h1,h2,h4⟩:=hA k r hr
 have h20:=h2
 obtain⟨A,c,B,d,rfl,-⟩:=h2
 refine⟨a,A,c,B,d,ha,h20,fun L D=>⟨_,_,rfl,rfl,rfl,fun j u hu=>?_⟩,fun L D o u hu=>⟨_,rfl,?_⟩⟩
 ·rw[add_of_add,add_of_add]
  refine .g (h4 (2+j) u ?_)
  match j,hu with
  | 0,h=>exact h
  | 1,h=>exact h
  | 2,h=>exact h
  | j+3,h=>cases h
 ·rw[add_of_add]
  exact .g (h4 o u hu)
theorem lead_at{p:Pt}(h:okP p)(h0:¬ p.leader < 0):∃ k r,atR p.reps p.leader=some k∧p.reps[k]?=some r∧r.id=p.leader:=by
 obtain⟨r0,hr0,hl0⟩:∃ r∈p.reps,r.id=p.leader:=by
  rcases h.2.2 with h | ⟨⟨r,hr,h,-⟩,-⟩
  ·omega
  ·exact⟨r,hr,h⟩
 exact atR_of (l:=p.reps) (n:=p.leader) (List.mem_map.2 ⟨r0,hr0,hl0⟩)
theorem Lead_ok(p:Pt)(cs:List Value)(G:Nat→Option Obj)(hp:PE G p cs)(hsm:smP p):FnD Tryz.prog 15 #[.agg cs.toArray] G (LgR (leadP p)):=by
 have hchk:=PCheck_ok p cs G hp hsm
 have hp0:=hp
 obtain⟨A,c,B,d,rfl,hv1,hv2,hI⟩:=hp
 refine F15.fnD (by simp) (go_of ?_)
 unfold c15
 unfold cellT at hchk ⊢
 intros;refine gr 0 0 ?_;refine sJ c15r0.eq_1 ?_
 intros;try refine go_seq ?_
 intros;try refine go_seq ?_
 intros;refine gr 6 8 ?_;refine sJ c15r1.eq_1 ?_
 refine(hchk _ _).mono ?_;rintro _ _ ⟨rfl,rfl⟩;refine sI ?_
 intros;try refine go_seq ?_
 intros;refine gr 8 9 ?_;refine sJ c15r2.eq_1 ?_
 intros;refine gc ?_;refine sI ?_
 refine gb (fun k1=>?_) (fun k1=>?_)
 ·have k1:=of_decide_eq_true k1
  intros;refine gr 10 12 ?_;refine sJ c15r3.eq_1 ?_
  intros;refine rV ?_;simp only[push_cast,Nat.reduceBEq]
  rw[leadP,if_pos k1]
  exact noneL_r
 have k1:chkPt p=0:=by simpa using k1
 have hok:=chkPt_0 k1
 intros;refine gN ?_
 intros;try refine go_seq ?_
 intros;try refine go_seq ?_
 intros;refine gr 13 14 ?_;refine sJ c15r4.eq_1 ?_
 intros;refine gc ?_;refine sI ?_
 refine gb (fun k2=>?_) (fun k2=>?_)
 ·have k2:=of_decide_eq_true k2
  intros;refine gr 15 16 ?_;refine sJ c15r5.eq_1 ?_
  intros;refine rV ?_;simp only[push_cast,Nat.reduceBEq]
  rw[leadP,if_neg (fun h=>h k1),if_pos k2]
  exact noneL_r
 have k2:=of_decide_eq_false k2
 obtain⟨k,r,hk,hr,-⟩:=lead_at hok k2
 have hld:leadP p=(r.log,0):=by
  rw[leadP,if_neg (fun h=>h k1),if_neg k2,hk]
  dsimp only
  rw[hr]
  rfl
 rw[hld]
 intros;refine gN ?_
 intros;try refine go_seq ?_
 intros;refine gr 16 19 ?_;refine sJ c15r6.eq_1 ?_
 intro x hx
 refine sI ?_
 intros
 refine go_gx (gx_blk_at [] _) ?_
 rintro h' ⟨G1,rfl,hg1,f1⟩
 have hpt:PtG G1 p x A c B d:=⟨fun j u hu=>by have:=f1 j u hu;rwa [add_mk]at this,hv1.le (E':=IE) hg1 fun _ _ h=>h,SlR.le hg1 hv2⟩
 obtain⟨a,A1,c1,B1,d1,rfl,hre,hl3,-⟩:=rep_fz hpt.2.2 hr
 obtain⟨A9,c9,B9,d9,he9,hs9,-,hlim,-⟩:=hre
 unfold cellP at he9
 cases he9
 unfold cellL at hl3
 have hat:=at_ok p x A c (some a) d p.leader G1 hpt hI.2.1 (okIds_of hok)
 rw[hk]at hat
 have hat:FnS Tryz.prog 51 #[.pointer (some ⟨x,0,none⟩),.int .i64 p.leader] G1 (.pointer (some (a.add (k * 7)))):=hat
 intros;try refine go_seq ?_
 intros;refine gr 19 26 ?_;refine sJ c15r7.eq_1 ?_
 refine(hat _ _).mono ?_;rintro _ _ ⟨rfl,rfl⟩;refine sI ?_
 refine⟨_,hl3 _ _,?_⟩
 refine sI ?_
 intros;refine rV ?_;simp only[push_cast,Nat.reduceBEq]
 exact⟨_,rfl,A1,c1,rfl,hs9,hlim⟩
theorem F20:Fun Tryz.prog 20 32 v20 c20 o20:=Fun.mkA Tryz.func20 Tryz.ntmps20
def highF(l:List Rp)(m n:Int):Int:=max m (match atR l n with | some k=>(l[k]?.map (·.high)).getD 0 | none=>0)
theorem highF_1{l:List Rp}{m n:Int}{k:Nat}{r:Rp}(h:atR l n=some k)(hr:l[k]?=some r):highF l m n=max m r.high:=by
 unfold highF
 rw[h]
 dsimp only
 rw[hr]
 rfl
theorem High_ok(p:Pt)(cs:List Value)(G:Nat→Option Obj)(hp:PE G p cs)(hsm:smP p):FnS Tryz.prog 20 #[.agg cs.toArray] G (.int .i64 (highP p)):=by
 have hchk:=fun G' hg=>PCheck_ok p cs G' (hp.le hg) hsm
 obtain⟨A,c,B,d,rfl,hv1,hv2,hI⟩:=hp
 refine F20.fnS (by simp) (go_of ?_)
 unfold c20
 have hself:∀ j u,(cellT p A c B d)[j]?=some u→(cellT p A c B d)[0+j]?=some u:=fun j u h=>by rw[Nat.zero_add];exact h
 unfold cellT at hchk hself ⊢
 intros;refine gr 0 0 ?_;refine sJ c20r0.eq_1 ?_
 intro b1 hb1
 refine sI ?_
 intros
 refine go_gx (gx_blk_at [] _) ?_
 rintro h' ⟨G1,rfl,hg1,f1⟩
 have f1:∀ j u,(cellT p A c B d)[j]?=some u→cellG G1 ⟨b1,j,none⟩=some u:=fun j u hu=>by have:=f1 j u hu;rwa [add_mk]at this
 have hchk:=hchk G1 hg1
 intros;try refine go_seq ?_
 intros;try refine go_seq ?_
 intros;refine gr 6 8 ?_;refine sJ c20r1.eq_1 ?_
 refine⟨_,⟨_,_,rfl,rfl,rfl,fun j u hu=>.g (by rw[add_mk];exact f1 j u hu)⟩,?_⟩
 refine sI ?_
 refine(hchk _ _).mono ?_;rintro _ _ ⟨rfl,rfl⟩;refine sI ?_
 intros;refine gc ?_;refine sI ?_
 refine gb (fun k1=>?_) (fun k1=>?_)
 ·have k1:=of_decide_eq_true k1
  intros;refine gr 0 0 ?_;refine sJ c20r2.eq_1 ?_
  intros;refine rV ?_;simp only[push_cast,Nat.reduceBEq]
  rw[highP,if_pos k1]
 have k1:chkPt p=0:=by simpa using k1
 have hok:=chkPt_0 k1
 intros;refine gN ?_
 intros;try refine go_seq ?_
 intros;refine gr 9 12 ?_;refine sJ c20r3.eq_1 ?_
 refine⟨_,⟨_,_,rfl,rfl,rfl,fun j u hu=>.g (by rw[add_mk];exact f1 j u hu)⟩,?_⟩
 refine sI ?_
 intro x hx
 refine sI ?_
 intros
 refine go_gx (gx_blk_at [] _) ?_
 rintro h' ⟨G2,rfl,hg2,f2⟩
 have hg02:=hg1.trans hg2
 have hpt:PtG G2 p x A c B d:=⟨fun j u hu=>by have:=f2 j u hu;rwa [add_mk]at this,hv1.le (E':=IE) hg02 fun _ _ h=>h,SlR.le hg02 hv2⟩
 have f1:∀ j u,(cellT p A c B d)[j]?=some u→cellG G2 ⟨b1,j,none⟩=some u:=fun j u hu=>cellG_le hg2 (f1 j u hu)
 have hd:decide (p.leader≥0)=decide (0≤p.leader):=rfl
 intros;try refine go_seq ?_
 intros;refine gr 12 14 ?_;refine sJ c20r4.eq_1 ?_
 refine⟨_,⟨_,rfl,.g (f1 1 _ rfl)⟩,?_⟩
 refine sI ?_
 intros;refine gc ?_;refine sI ?_
 refine gb (fun k2=>?_) (fun k2=>?_)
 ·have k2:0≤p.leader:=of_decide_eq_true k2
  obtain⟨k,r,hk,hr,-⟩:=lead_at hok (by omega)
  obtain⟨a,A1,c1,B1,d1,rfl,-,-,hf⟩:=rep_fz hpt.2.2 hr
  have hat:=at_ok p x A c (some a) d p.leader G2 hpt hI.2.1 (okIds_of hok)
  rw[hk]at hat
  have hat:FnS Tryz.prog 51 #[.pointer (some ⟨x,0,none⟩),.int .i64 p.leader] G2 (.pointer (some (a.add (k * 7)))):=hat
  intros;try refine go_seq ?_
  intros;refine gr 15 22 ?_;refine sJ c20r5.eq_1 ?_
  refine⟨_,⟨_,rfl,.g (f1 1 _ rfl)⟩,?_⟩
  refine sI ?_
  refine(hat _ _).mono ?_;rintro _ _ ⟨rfl,rfl⟩;refine sI ?_
  refine⟨_,hf _ _ 6 _ rfl,?_⟩
  refine sI ?_
  intros;refine rV ?_;simp only[push_cast,Nat.reduceBEq]
  rw[highP,if_neg (fun h=>h k1),if_pos k2,hk]
  dsimp only
  rw[hr]
  rfl
 have k2:¬ 0≤p.leader:=of_decide_eq_false k2
 have hhp:highP p=p.isr.foldl (highF p.reps) 0:=by rw[highP,if_neg (fun h=>h k1),if_neg k2];rfl
 rw[hhp]
 intros;refine gN ?_
 intros;try refine go_seq ?_
 intros;refine gr 0 0 ?_;refine sJ c20r6.eq_1 ?_
 intro b4 hb4
 refine stX_blk [] _ rfl (by simp) ⟨rfl,rfl⟩ ?_
 refine sI ?_
 intros;try refine go_seq ?_
 intros;try refine go_seq ?_
 intros;refine gr 22 23 ?_;refine sJ c20r7.eq_1 ?_
 refine(inStep_ok p x G2 _ _).mono ?_
 rintro rr h' ⟨G3,rfl,hg3,b5,rfl,hb5⟩
 have hpt3:=hpt.le hg3
 have hit:=inStep1_iter p x b5 A c B d G3 hpt3 (okIds_of hok) hb5
 refine sI ?_
 (intros;try refine go_st ?_)
 refine go_rf (α:=Int) (fun t G' L'=>L'=[.blk b4 [.int .i64 ((p.isr.take t).foldl (highF p.reps) 0)]]) (fun _ _ _ _=>False) (eE) F111.enters (noRegs_blk noRegs_nil) (fun _ _ _ _ _ h=>h) hit (fun G x args h=>by cases h;rfl) rfl ?_ ?_ ?_
 ·rintro yl t n args G' L' hx hgl rfl rfl _
  obtain⟨i,y,hi,hiy,hyn⟩:=atR_of (hok.2.1.2 n (List.mem_of_getElem? hx))
  have hnext:(p.isr.take (t+1)).foldl (highF p.reps) 0=max ((p.isr.take t).foldl (highF p.reps) 0) y.high:=by rw[foldl_at _ _ hx,highF_1 hi hiy]
  obtain⟨a,A1,c1,B1,d1,hBa,-,-,hf⟩:=rep_fz (hpt3.le hgl).2.2 hiy
  have hptr:ptrR B (some i)=some (a.add (i * 7)):=by rw[hBa];rfl
  rw[hi,hptr,hnext]
  generalize (p.isr.take t).foldl (highF p.reps) 0=m0 at *
  refine sI ?_
  intros;refine gr 0 0 ?_;refine sJ c20r8.eq_1 ?_
  intro bb
  refine go_nil (rnd_a ?_)
  intros;try refine go_seq ?_
  (intros;try refine go_st ?_)
  (intros;try refine go_st ?_);refine go_t (by decide) ?_;refine sJ c20r9.eq_1 ?_
  refine⟨_,ldN_blk (.head _) rfl,?_⟩
  refine sI ?_
  refine⟨_,hf _ _ 6 _ rfl,?_⟩
  refine sJ c20r10.eq_1 ?_
  refine stX_blk [] _ rfl (by simp) ⟨rfl,rfl⟩ ?_
  refine sI ?_
  intros;refine gN ?_
  refine go_nil (rnd_n _ (List.Sublist.refl _) (noRegs_blk noRegs_nil) rfl)
 ·rintro G' L' dd hgl rfl _
  rw[List.take_length]
  intros;refine gN ?_
  intros;refine gr 31 32 ?_;refine sJ c20r11.eq_1 ?_
  refine⟨_,ldN_blk (.head _) rfl,?_⟩
  refine sI ?_
  intros;refine rV ?_;simp only[push_cast,Nat.reduceBEq]
 ·rintro ex i G' L' d _ _ h
  exact h.elim
theorem F168:Fun Tryz.prog 168 32 v168 c168 o168:=Fun.mkA Tryz.func168 Tryz.ntmps168
theorem F135:Fun Tryz.prog 135 62 v135 c135 o135:=Fun.mkA Tryz.func135 Tryz.ntmps135
theorem EqualF_ok(a b:List Batch)(v u:Value)(G:Nat→Option Obj)(ha:SlV G (BE G) 10 v a)(hb:SlV G (BE G) 10 u b):FnS Tryz.prog 168 #[v,u,.func (.func 169) #[] #[]] G (.bool (decide (a=b))):=by
 obtain⟨A,c,rfl,hc,hmx,hA⟩:=ha
 obtain⟨B,d,rfl,hd,hmy,hB⟩:=hb
 refine F168.fnS (by simp) (go_of ?_)
 unfold c168
 intros;refine gr 0 0 ?_;refine sJ c168r0.eq_1 ?_
 intros;try refine go_seq ?_
 intros;try refine go_seq ?_
 intros;refine gr 10 14 ?_;refine sJ c168r1.eq_1 ?_
 intros;refine gc ?_;refine sI ?_
 refine gb (fun k1=>?_) (fun k1=>?_)
 ·have k1:=of_decide_eq_true k1
  intros;refine gr 0 0 ?_;refine sJ c168r2.eq_1 ?_
  intros;refine rV ?_;simp only[push_cast,Nat.reduceBEq]
  rw[decide_eq_false fun h=>k1 (by rw[h])]
 have k1:a.length=b.length:=by have:=of_decide_eq_false k1;omega
 intros;refine gN ?_
 intros;try refine go_seq ?_
 intros;try refine go_seq ?_
 intros;refine gr 0 0 ?_;refine sJ c168r3.eq_1 ?_
 (intros;try refine go_st ?_)
 refine go_loop (fun e h=>∃ k:Nat,(k≤a.length∧a.take k=b.take k)∧e 17=.int .i64 k∧e 16=.int .i64 a.length∧e 15=.slice A a.length c∧e 1=.slice B b.length d∧e 2=.func (.func 169) #[] #[]∧h=⟨G,[],[]⟩) (fun e h=>a.length - iv (e 17)) ?_ ?_
 ·exact⟨0,⟨Nat.zero_le _,rfl⟩,eE,eE,eE,eE,eE,rfl⟩
 rintro e h ⟨k,⟨hk,heq⟩,e17,e16,e15,e1,e2,rfl⟩
 refine go_keep [1,2,15,16,17] ?_
 refine sJ5 @e1 @e2 @e15 @e16 @e17 ?_
 intros;refine gr 0 0 ?_;refine sJ c168r4.eq_1 ?_
 intros;refine gc ?_;refine sI ?_
 refine gb (fun ht=>?_) (fun ht=>?_)
 ·have ht:k < a.length:=by have:=of_decide_eq_true ht;omega
  have hw:=inc_i k c (by omega) hmx
  obtain⟨x,hx⟩:∃ s,a[k]?=some s:=⟨a[k],List.getElem?_eq_getElem (by omega)⟩
  obtain⟨y,hy⟩:∃ s,b[k]?=some s:=⟨b[k],List.getElem?_eq_getElem (by omega)⟩
  intros;refine gN ?_
  intros;try refine go_seq ?_
  intros;refine gr 19 22 ?_;refine sJ c168r5.eq_1 ?_
  refine hA.x_ld hx rfl rfl ?_
  rintro a1 ha1 cs hbx
  have hbx0:=hbx
  obtain⟨B1,d1,rfl,-⟩:=hbx
  unfold cellH at hbx0 ⊢
  refine sI ?_
  intros;try refine go_seq ?_
  intros;refine gr 22 26 ?_;refine sJ c168r6.eq_1 ?_
  refine hB.x_ld hy (by omega) rfl ?_
  rintro a2 ha2 cs hby
  have hby0:=hby
  obtain⟨B2,d2,rfl,-⟩:=hby
  unfold cellH at hby0 ⊢
  refine sI ?_
  intros;try refine go_seq ?_
  intros;refine gr 26 30 ?_;refine sJ c168r7.eq_1 ?_
  refine .inl ⟨169,#[],rfl,?_⟩
  refine(Same_ok x y _ _ G hbx0 hby0 _ _).mono ?_;rintro _ _ ⟨rfl,rfl⟩;refine sI ?_
  intros;refine gc ?_;refine sI ?_
  refine gb (fun k2=>?_) (fun k2=>?_)
  ·have k2:¬ x=y:=by simpa using k2
   intros;refine gr 0 0 ?_;refine sJ c168r8.eq_1 ?_
   intros;refine rV ?_;simp only[push_cast,Nat.reduceBEq]
   rw[decide_eq_false fun h=>k2 (by rw[h,hy]at hx;cases hx;rfl)]
  ·have k2:x=y:=by simpa using k2
   subst k2
   intros;refine gN ?_
   refine go_ghost (ghost_sub (List.nil_sublist _)) ?_
   intros;refine gr 31 32 ?_;refine sJ2 c168r9.eq_1 @hw ?_
   (intros;try refine go_st ?_)
   refine go_l ⟨⟨k+1,⟨by omega,by rw[take_snoc' hx,take_snoc' hy,heq]⟩,eE,eE,eE,eE,eE,rfl⟩,?_⟩
   refine sI ?_
   omega
 ·have ht:k=a.length:=by have:=of_decide_eq_false ht;omega
  subst ht
  rw[List.take_length,k1,List.take_length]at heq
  refine go_exit ?_
  refine sI ?_
  intros;refine gr 0 0 ?_;refine sJ c168r10.eq_1 ?_
  intros;refine rV ?_;simp only[push_cast,Nat.reduceBEq]
  rw[decide_eq_true heq]
theorem truL_sm{l:Lg}{to:Int}(h:smL l.segs)(hm:l.segs.length≤1000):smL (truL l to).1.segs∧(truL l to).1.segs.length≤1000:=by
 have h0:smL noneL.segs∧noneL.segs.length≤1000:=⟨fun s hs=>absurd hs (by simp[noneL]),by simp[noneL]⟩
 unfold truL
 split
 ·split
  ·show smL (truT l.segs to)∧(truT l.segs to).length≤1000
   unfold truT
   split
   ·exact⟨fun s hs=>by simp at hs;subst hs;simp,by simp⟩
   ·refine⟨fun s hs=>?_,by have:=truS_len l.segs to;omega⟩
    obtain⟨t,ht,rfl⟩:=List.mem_map.1 hs
    have:=h t (List.mem_filter.1 ht).1
    simp only[cutS,List.length_take]
    omega
  ·exact h0
 ·exact h0
def LgB(q:Lg × Bool)(G:Nat→Option Obj)(r:Value):Prop:=∃ cs,r=.tuple #[.agg cs.toArray,.bool q.2]∧LE G q.1 cs
theorem caughtUp_ok(l lead:Lg)(to:Int)(cs ds:List Value)(G:Nat→Option Obj)(hl:LE G l cs)(hd:LE G lead ds)(hb:smL l.segs)(hm:l.segs.length≤1000)(hb2:smL lead.segs)(hto:I64 to):
  FnD Tryz.prog 135 #[.agg cs.toArray,.agg ds.toArray,.int .i64 to] G (LgB (caughtL l lead to)):=by
 have htru:=Truncate_ok l to cs G hl hb hm hto
 have hsm:=truL_sm (to:=to) hb hm
 have hd0:=hd
 obtain⟨A,c,rfl,-⟩:=hl
 obtain⟨B,d,rfl,-⟩:=hd
 have hcaught:caughtL l lead to=if (truL l to).2≠0∨(AllL lead).length < (AllL (truL l to).1).length∨AllL (truL l to).1≠(AllL lead).take (AllL (truL l to).1).length then((truL l to).1,false)else appsL (truL l to).1 ((AllL lead).drop (AllL (truL l to).1).length):=rfl
 refine F135.fnD (by simp) (go_of ?_)
 unfold c135
 unfold cellL at htru hd0 ⊢
 intros;refine gr 0 0 ?_;refine sJ c135r0.eq_1 ?_
 intros;try refine go_seq ?_
 intros;refine gr 13 19 ?_;refine sJ c135r1.eq_1 ?_
 refine(htru _ _).mono ?_
 rintro r h' ⟨G1,rfl,hg1,cs1,rfl,hle⟩
 generalize truL l to=tr at *
 obtain⟨l1,e1⟩:=tr
 dsimp only at hle hcaught hsm
 have hle0:=hle
 obtain⟨A1,c1,rfl,-⟩:=hle
 have hall1:=All_ok l1 _ G1 hle0 hsm.1
 unfold cellL at hall1 hle0 ⊢
 refine sI ?_
 intros;try refine go_seq ?_
 (intros;try refine go_st ?_);refine go_x _ (List.Sublist.refl _) (by decide) ?_;refine sJ c135r2.eq_1 ?_
 refine(hall1 _ _).mono ?_
 rintro r h' ⟨G2,rfl,hg2,hv1⟩
 refine⟨grow_G hg2,?_⟩
 refine sI ?_
 refine(All_ok lead _ G2 (LE.le (hg1.trans hg2) hd0) hb2 _ _).mono ?_
 rintro r2 h' ⟨G3,rfl,hg3,hv2⟩
 refine⟨grow_G (hg2.trans hg3),?_⟩
 refine sI ?_
 have hv1:SlV G3 (BE G3) 10 r (AllL l1):=hv1.le hg3 fun _ _ h=>BE.le hg3 h
 generalize AllL l1=mine at *
 generalize AllL lead=all at *
 obtain⟨A4,c4,rfl,q1,q2,q3⟩:=hv1
 obtain⟨A5,c5,rfl,q4,q5,q6⟩:=hv2
 have hv1:SlV G3 (BE G3) 10 (.slice A4 mine.length c4) mine:=⟨A4,c4,rfl,q1,q2,q3⟩
 have hv2:SlV G3 (BE G3) 10 (.slice A5 all.length c5) all:=⟨A5,c5,rfl,q4,q5,q6⟩
 have hno:(e1≠0∨all.length < mine.length∨mine≠all.take mine.length)→∀ (fr:List Td) (e:Env),go none Tryz.prog 62 v135.1 v135.2 (retQ o135 fun v h=>LgB (caughtL l lead to) h.G v) (Td.s ((SC.reg false c135r4).seq .ret) :: fr) e ⟨G3,[.reg 6 [.int .i64 0,.int .i64 0,.slice none 0 0],.reg 4 [.int .i64 lead.limit,.int .i64 lead.start,.slice B lead.segs.length d],.reg 3 [.int .i64 l1.limit,.int .i64 l1.start,.slice A1 l1.segs.length c1]],[]⟩:=fun hn fr e=>by
  intros;refine gr 41 42 ?_;refine sJ c135r4.eq_1 ?_
  intros
  refine go_ret (retQ_v rfl ?_)
  rw[hcaught,if_pos hn]
  exact⟨_,rfl,LE.le (hg2.trans hg3) hle0⟩
 intros;try refine go_seq ?_
 intros;try refine go_seq ?_
 intros;refine gr 23 40 ?_;refine sJ c135r3.eq_1 ?_
 refine gd (fun k1=>?_) (fun k1=>?_)
 ·have k1:=of_decide_eq_true k1
  refine sI ?_
  intros;refine gc ?_;refine sI ?_
  exact hno (.inl k1) _ _
 have k1:e1=0:=by simpa using k1
 refine sI ?_
 refine gd (fun k2=>?_) (fun k2=>?_)
 ·have k2:=of_decide_eq_true k2
  refine sI ?_
  intros;refine gc ?_;refine sI ?_
  exact hno (.inr (.inl (by omega))) _ _
 have k2:mine.length≤all.length:=by have:=of_decide_eq_false k2;omega
 have htl:(all.take mine.length).length=mine.length:=by rw[List.length_take];omega
 have hpre:=SlV.pre mine.length hv2 k2
 have heq:=EqualF_ok mine (all.take mine.length) _ _ G3 hv1 hpre
 refine sI ?_
 refine⟨by omega,?_⟩
 refine sI ?_
 refine(heq _ _).mono ?_;rintro _ _ ⟨rfl,rfl⟩;refine sI ?_
 intros;refine gc ?_;refine sI ?_
 refine gb (fun k3=>?_) (fun k3=>?_)
 ·have k3:¬ mine=all.take mine.length:=by simpa using k3
  exact hno (.inr (.inr k3)) _ _
 have k3:mine=all.take mine.length:=by simpa using k3
 have hc2:caughtL l lead to=appsL l1 (all.drop mine.length):=by
  rw[hcaught,if_neg]
  rintro(h | h | h)
  ·exact h k1
  ·omega
  ·exact h k3
 rw[hc2]
 clear hno hcaught heq hc2
 intros;refine gN ?_
 intros;try refine go_seq ?_
 intros;refine gr 42 45 ?_;refine sJ c135r5.eq_1 ?_
 refine slY_v mine.length all.length c5 hv2 rfl rfl rfl (by omega) fun B5 hB5=>?_
 rw[List.take_length]at hB5 ⊢
 generalize all.drop mine.length=rest at *
 obtain⟨A6,c6,he6,q7,q8,hA6⟩:=hB5
 cases he6
 have hgt:=hg2.trans hg3
 have hle1:=LE.le hgt hle0
 refine sI ?_
 (intros;try refine go_st ?_)
 refine go_loop (fun e h=>∃ (k:Nat) (cur:Lg) (G':Nat→Option Obj) (A':Option Addr) (c':Nat),(k≤rest.length∧Gle G3 G'∧LE G' cur (cellL cur A' c')∧smL cur.segs∧cur.segs.length≤1000∧appsL l1 rest=appsL cur (rest.drop k))∧e 47=.int .i64 k∧e 46=.int .i64 rest.length∧e 45=.slice B5 rest.length (c5 - mine.length)∧h=⟨G',[.reg 6 [.int .i64 0,.int .i64 0,.slice none 0 0],.reg 4 [.int .i64 lead.limit,.int .i64 lead.start,.slice B lead.segs.length d],.reg 3 (cellL cur A' c')],[]⟩) (fun e h=>rest.length - iv (e 47)) ?_ ?_
 ·exact⟨0,l1,G3,A1,c1,⟨Nat.zero_le _,.refl _,hle1,hsm.1,hsm.2,rfl⟩,eE,eE,eE,rfl⟩
 rintro e h ⟨k,cur,G',A',c',⟨hk,hg',hlc,hs1,hs2,hap⟩,e47,e46,e45,rfl⟩
 refine go_keep [45,46,47] ?_
 refine sJ3 @e45 @e46 @e47 ?_
 unfold cellL at hlc ⊢
 intros;refine gr 0 0 ?_;refine sJ c135r6.eq_1 ?_
 intros;refine gc ?_;refine sI ?_
 refine gb (fun ht=>?_) (fun ht=>?_)
 ·have ht:k < rest.length:=by have:=of_decide_eq_true ht;omega
  have hw:=inc_i k _ (by omega) q8
  obtain⟨x,hx⟩:∃ s,rest[k]?=some s:=⟨rest[k],List.getElem?_eq_getElem (by omega)⟩
  have hdr:rest.drop k=x :: rest.drop (k+1):=by
   rw[List.drop_eq_getElem_cons ht]
   congr 1
   exact(List.getElem?_eq_some_iff.1 hx).2
  rw[hdr,appsL]at hap
  have hA':=hA6.le (E':=BE G') hg' fun _ _ h=>BE.le hg' h
  intros;refine gN ?_
  intros;try refine go_seq ?_
  intros;refine gr 49 51 ?_;refine sJ c135r7.eq_1 ?_
  refine hA'.x_ld hx rfl rfl ?_
  rintro a1 ha1 cs hbx
  have hbx0:=hbx
  obtain⟨B1,d1,rfl,-⟩:=hbx
  unfold cellH at hbx0 ⊢
  have hca:=CAppend_ok cur x _ _ G' hlc hs1 hs2 hbx0
  have hapo:=appL_ok (l:=cur) (b:=x)
  generalize appL cur x=ax at *
  obtain⟨cur2,e2⟩:=ax
  dsimp only at hap hapo
  refine sI ?_
  intros;try refine go_seq ?_
  intros;refine gr 51 57 ?_;refine sJ c135r8.eq_1 ?_
  refine(hca _ _).mono ?_
  rintro v h' ⟨G4,rfl,hg4,cs7,rfl,hle7⟩
  dsimp only at hle7
  have hle70:=hle7
  obtain⟨A7,c7,rfl,-⟩:=hle7
  unfold cellL at hle70 ⊢
  refine sI ?_
  intros;try refine go_seq ?_
  intros;refine gr 57 58 ?_;refine sJ c135r9.eq_1 ?_
  intros;refine gc ?_;refine sI ?_
  refine gb (fun k4=>?_) (fun k4=>?_)
  ·have k4:=of_decide_eq_true k4
   rw[if_neg k4]at hap
   intros;refine gr 59 60 ?_;refine sJ c135r10.eq_1 ?_
   intros
   refine go_ret (retQ_v rfl ?_)
   rw[hap]
   exact⟨_,rfl,hle70⟩
  ·have k4:e2=0:=by simpa using k4
   rw[if_pos k4]at hap
   have hck:=(hapo k4).2.2.1
   intros;refine gN ?_
   refine go_ghost (ghost_sub (L':=[.reg 6 [.int .i64 0,.int .i64 0,.slice none 0 0],.reg 4 [.int .i64 lead.limit,.int .i64 lead.start,.slice B lead.segs.length d],.reg 3 [.int .i64 cur2.limit,.int .i64 cur2.start,.slice A7 cur2.segs.length c7]]) (.cons _ (List.Sublist.refl _))) ?_
   intros;refine gr 60 61 ?_;refine sJ2 c135r11.eq_1 @hw ?_
   (intros;try refine go_st ?_)
   refine go_l ⟨⟨k+1,cur2,G4,A7,c7,⟨by omega,hg'.trans hg4,hle70,sm_of hck,by have:=(chkL_0 hck).2.2.2;omega,hap⟩,eE,eE,eE,rfl⟩,?_⟩
   refine sI ?_
   omega
 ·have ht:k=rest.length:=by have:=of_decide_eq_false ht;omega
  subst ht
  rw[List.drop_length,appsL]at hap
  refine go_exit ?_
  refine sI ?_
  intros;refine gr 61 62 ?_;refine sJ c135r12.eq_1 ?_
  intros;refine rV ?_;simp only[push_cast,Nat.reduceBEq]
  rw[hap]
  exact⟨_,rfl,hlc⟩
theorem F82:Fun Tryz.prog 82 67 v82 c82 o82:=Fun.mkA Tryz.func82 Tryz.ntmps82
theorem endp_i{l:List Ep}(h:chkN l=0){i:Nat}{en:Int}(he:0≤en∧en≤1099511627777):0≤endp l i en∧endp l i en≤1099511627777:=by
 unfold endp
 cases hy:l[i+1]? with
 | none=>simpa using he
 | some y =>
  have:=chk_ok h hy
  simp[okE]at this ⊢
  omega
theorem meetR_i{a b:List Ep}{ae be m:Int}(h:MeetR a b ae be m)(h1:0≤ae∧ae≤1099511627777)(h2:0≤be∧be≤1099511627777):0≤m∧m≤1099511627777:=by
 rcases h with⟨-,rfl⟩ | ⟨ha,hb,⟨-,rfl⟩ | ⟨i,x,k,y,-,-,-,-,rfl⟩⟩
 ·omega
 ·omega
 ·have:=endp_i ha (i:=i) h1
  have:=endp_i hb (i:=k) h2
  omega
theorem meetP_i(r lead:Rp):0≤meetP r lead∧meetP r lead≤1099511627777:=by
 unfold meetP meetE
 split
 ·rename_i h
  exact meetR_i (Classical.choose_spec h) (EndL_i _) (EndL_i _)
 ·omega
theorem follow_ok(l:List Rp)(k:Nat)(r lead:Rp)(ga d:Nat)(zs ds:List Value)(G:Nat→Option Obj)(hz:Cells (RE G) 7 l zs)(hr:l[k]?=some r)(hd:RE G lead ds)(hsr:smR r)(hsl:smR lead):
  FnO Tryz.prog 82 #[.pointer (some ⟨ga,k * 7,none⟩),.agg ds.toArray] G [.row (.slice (some ⟨ga,0,none⟩) l.length d) 50 7 l.length zs] (fun G' L' v=>v=.tuple #[]∧∃ zs',L'=[.row (.slice (some ⟨ga,0,none⟩) l.length d) 50 7 l.length zs']∧Cells (RE G') 7 (l.set k (followR r lead)) zs'):=by
 have hzl:=hz.len
 have hkl:=(List.getElem?_eq_some_iff.1 hr).1
 obtain⟨cs,hre,hcl,hld⟩:=hz.get hr
 have hre0:=hre
 have hd0:=hd
 have hendr:=pend_ok r cs G hre hsr.1 (by have:=hsr.2.1;omega)
 have hendl:=pend_ok lead ds G hd hsl.1 (by have:=hsl.2.1;omega)
 obtain⟨A1,c1,B1,d1,rfl,q1,q2,q3,q4⟩:=hre
 obtain⟨A2,c2,B2,d2,rfl,p1,p2,p3,p4⟩:=hd
 have hmeet:=EMeetS r.eps lead.eps (EndL r.log) (EndL lead.log) _ _ G q2 p2 (by have:=hsr.2.2;omega) (by have:=hsl.2.2;omega)
 have hmp:meetP r lead=meetE r.eps lead.eps (EndL r.log) (EndL lead.log):=rfl
 refine F82.fnO (by simp) (noRegs_row noRegs_nil) (go_of ?_)
 unfold c82
 unfold cellP at hendr hendl hd0 ⊢
 intros;refine gr 0 0 ?_;refine sJ c82r0.eq_1 ?_
 intros;try refine go_seq ?_
 (intros;try refine go_st ?_);refine go_x _ (List.Sublist.refl _) (by decide) ?_;refine sJ c82r1.eq_1 ?_
 refine⟨_,ldN_row (.tail _ (.head _)) (hld 5 _ rfl),?_⟩
 refine sI ?_
 refine⟨_,ldN_rowN (.tail _ (.head _)) hcl hld,?_⟩
 unfold cellP
 refine sI ?_
 refine(hendr _ _).mono ?_;rintro _ _ ⟨rfl,rfl⟩;refine sI ?_
 refine(hendl _ _).mono ?_;rintro _ _ ⟨rfl,rfl⟩;refine sI ?_
 refine(hmeet _ _).mono ?_;rintro _ _ ⟨rfl,rfl⟩;refine sI ?_
 rw[← hmp]
 have hei:=EndL_i r.log
 have hto:I64 (min (meetP r lead) (EndL r.log)):=by
  have:=meetP_i r lead
  unfold I64
  omega
 have hfo:(followR r lead).log=if r.log.start=lead.log.start∧r.log.start≤meetP r lead∧(caughtL r.log lead.log (min (meetP r lead) (EndL r.log))).2=true then(caughtL r.log lead.log (min (meetP r lead) (EndL r.log))).1 else lead.log:=rfl
 have hle1:LE G r.log (cellL r.log A1 c1):=⟨A1,c1,rfl,q1,q3⟩
 have hle2:LE G lead.log (cellL lead.log A2 c2):=⟨A2,c2,rfl,p1,p3⟩
 have hcau:=caughtUp_ok r.log lead.log _ _ _ G hle1 hle2 hsr.1 hsr.2.1 hsl.1 hto
 have hldl:=ld_log hld
 unfold cellL at hcau hldl
 generalize hcm:meetP r lead=m at *
 generalize caughtL r.log lead.log (min m (EndL r.log))=cau at *
 obtain⟨cl,cb⟩:=cau
 dsimp only at hfo
 intros;try refine go_seq ?_
 intros;refine gr 22 23 ?_;refine sJ c82r2.eq_1 ?_
 intros;try refine go_seq ?_
 refine go_cut (fun e h=>∃ (G':Nat→Option Obj) (lg:Lg) (b:Bool) (A5:Option Addr) (c5:Nat),(Gle G G'∧LE G' lg (cellL lg A5 c5)∧(followR r lead).log=if b=true then lg else lead.log)∧e 0=.pointer (some ⟨ga,k * 7,none⟩)∧e 6=.bool b∧h=⟨G',[.reg 5 (cellL lg A5 c5),.reg 3 [.int .i64 lead.id,.bool lead.up,.int .i64 lead.log.limit,.int .i64 lead.log.start,.slice A2 lead.log.segs.length c2,.slice B2 lead.eps.length d2,.int .i64 lead.high],.row (.slice (some ⟨ga,0,none⟩) l.length d) 50 7 l.length zs],[]⟩) ?_ ?_
 ·intros;try refine go_seq ?_
  intros;refine gr 23 28 ?_;refine sJ c82r3.eq_1 ?_
  refine⟨_,ldN_row (.tail _ (.tail _ (.head _))) (hld 3 _ rfl),?_⟩
  refine sI ?_
  have hfin:¬ (r.log.start=lead.log.start∧r.log.start≤m)→(followR r lead).log=lead.log:=fun h=>by rw[hfo,if_neg fun h2=>h ⟨h2.1,h2.2.1⟩]
  intros;try refine go_seq ?_
  intros;refine gr 28 37 ?_;refine sJ c82r4.eq_1 ?_
  refine gd (fun k1=>?_) (fun k1=>?_)
  ·have k1:=of_decide_eq_true k1
   refine sI ?_
   intros;refine gc ?_;refine sI ?_
   refine gb (fun k2=>?_) (fun k2=>?_)
   ·have k2:r.log.start≤m:=of_decide_eq_true k2
    (intros;try refine go_st ?_);refine go_w _ (List.Sublist.refl _) (by decide) ?_;refine sJ c82r5.eq_1 ?_
    refine⟨_,ldN_rowN (.tail _ (.tail _ (.head _))) rfl hldl,?_⟩
    refine sI ?_
    refine⟨_,ldN_rowN (.tail _ (.tail _ (.head _))) hcl hld,?_⟩
    unfold cellP
    refine sI ?_
    refine(hendr _ _).mono ?_;rintro _ _ ⟨rfl,rfl⟩;refine sI ?_
    refine(hcau _ _).mono ?_
    rintro v h' ⟨G1,rfl,hg1,cs7,rfl,hle7⟩
    dsimp only at hle7
    have hle70:=hle7
    obtain⟨A7,c7,rfl,-⟩:=hle7
    unfold cellL
    refine sI ?_
    refine again_0 ?_
    refine sI ?_
    refine again_0 ?_
    refine sI ?_
    refine go_l ⟨G1,cl,cb,A7,c7,⟨hg1,hle70,?_⟩,eE,eE,rfl⟩
    rw[hfo]
    cases cb
    ·rw[if_neg (by simp),if_neg (by simp)]
    ·rw[if_pos ⟨k1,k2,rfl⟩,if_pos rfl]
   ·have k2:¬ r.log.start≤m:=of_decide_eq_false k2
    intros;refine gN ?_
    exact go_l ⟨G,lead.log,false,A2,c2,⟨.refl _,hle2,by rw[hfin fun h=>k2 h.2];rfl⟩,eE,eE,rfl⟩
  ·have k1:=of_decide_eq_false k1
   refine sI ?_
   intros;refine gc ?_;refine sI ?_
   intros;refine gN ?_
   exact go_l ⟨G,lead.log,false,A2,c2,⟨.refl _,hle2,by rw[hfin fun h=>k1 h.1];rfl⟩,eE,eE,rfl⟩
 rintro e h ⟨G1,lg,b,A5,c5,⟨hg1,hlg,hlog⟩,e0,e6,rfl⟩
 refine go_keep [0,6] ?_
 refine sJ2 @e0 @e6 ?_
 intros;try refine go_seq ?_
 refine go_cut (fun e h=>∃ (A8:Option Addr) (c8:Nat),LE G1 (followR r lead).log (cellL (followR r lead).log A8 c8)∧e 0=.pointer (some ⟨ga,k * 7,none⟩)∧h=⟨G1,[.reg 5 (cellL (followR r lead).log A8 c8),.reg 3 [.int .i64 lead.id,.bool lead.up,.int .i64 lead.log.limit,.int .i64 lead.log.start,.slice A2 lead.log.segs.length c2,.slice B2 lead.eps.length d2,.int .i64 lead.high],.row (.slice (some ⟨ga,0,none⟩) l.length d) 50 7 l.length zs],[]⟩) ?_ ?_
 ·intros;try refine go_seq ?_
  intros;refine gr 54 55 ?_;refine sJ c82r6.eq_1 ?_
  intros;refine gc ?_;refine sI ?_
  refine gb (fun k1=>?_) (fun k1=>?_)
  ·have k1:b=false:=by simpa using k1
   rw[if_neg (by rw[k1];simp)]at hlog
   rw[hlog]
   unfold cellL
   intros;refine gr 57 58 ?_;refine sJ c82r7.eq_1 ?_
   intros;refine gN ?_
   exact go_l ⟨A2,c2,LE.le hg1 hle2,eE,rfl⟩
  ·have k1:b=true:=by simpa using k1
   rw[if_pos k1]at hlog
   rw[hlog]
   intros;refine gN ?_
   exact go_l ⟨A5,c5,hlg,eE,rfl⟩
 rintro e h ⟨A8,c8,hle8,e0,rfl⟩
 refine go_keep [0] ?_
 refine sJ @e0 ?_
 have hz1:Cells (RE G1) 7 (l.set k { r with log:=(followR r lead).log }) (splice zs (k * 7+2) (cellL (followR r lead).log A8 c8)) :=
  Cells.setF (E:=RE G1) (x':={ r with log:=(followR r lead).log }) (cells_imp hz fun _ _ h=>RE.le hg1 h) hr (by simp[cellL]) fun cs h hl=>by
   obtain⟨A6,c6,B6,d6,rfl,q1,q2,q3,q4⟩:=h
   obtain⟨A9,c9,he9,h1,h2⟩:=hle8
   unfold cellL at he9
   cases he9
   exact⟨A8,c8,B6,d6,rfl,h1,q2,h2,q4⟩
 have hz2:Cells (RE G1) 7 (l.set k (followR r lead)) (splice (splice zs (k * 7+2) (cellL (followR r lead).log A8 c8)) (k * 7+5) [.slice B2 lead.eps.length d2]):=by
  have:=Cells.setF (E:=RE G1) (o:=5) (us:=[.slice B2 lead.eps.length d2]) (x':=followR r lead) hz1 (set_get hr) (by simp) fun cs h hl=>by
   obtain⟨A6,c6,B6,d6,rfl,q1,q2,q3,q4⟩:=h
   exact⟨A6,c6,B2,d2,rfl,q1,p2.le hg1 fun _ _ h=>h,q3,q4⟩
  rwa [List.set_set]at this
 unfold cellL at hz2 ⊢
 intros
 (intros;try refine go_st ?_);refine go_w _ (.cons_cons _ (.cons_cons _ (List.nil_sublist _))) (by decide) ?_;refine sJ c82r8.eq_1 ?_
 refine stX_row [_,_] [] rfl (by simp;omega) ⟨rfl,rfl⟩ ?_
 refine sI ?_
 refine⟨⟨fun _ _ h=>h,.cons_cons _ (.cons_cons _ (List.nil_sublist _)),rfl⟩,?_⟩
 refine stX_row [_,_] [] rfl (by simp[splice];omega) ⟨rfl,rfl⟩ ?_
 refine sI ?_
 exact go_nil ⟨[],rfl,⟨G1,[.row (.slice (some ⟨ga,0,none⟩) l.length d) 50 7 l.length _],[]⟩,ghost_sub (.cons _ (.cons _ (List.Sublist.refl _))),noRegs_row noRegs_nil,rfl,_,rfl,hz2⟩
theorem F170:Fun Tryz.prog 170 6 v170 c170 o170:=Fun.mkA Tryz.func170 Tryz.ntmps170
theorem F137:Fun Tryz.prog 137 6 v137 c137 o137:=Fun.mkA Tryz.func137 Tryz.ntmps137
theorem F136:Fun Tryz.prog 136 17 v136 c136 o136:=Fun.mkA Tryz.func136 Tryz.ntmps136
theorem F83:Fun Tryz.prog 83 54 v83 c83 o83:=Fun.mkA Tryz.func83 Tryz.ntmps83
theorem isNaN_ok(n:Int)(G:Nat→Option Obj):FnS Tryz.prog 170 #[.int .i64 n] G (.bool false):=by
 have hd:decide (n≠n)=false:=by simp
 refine F170.fnS (by simp) (go_of ?_)
 unfold c170
 intros;refine gr 0 0 ?_;refine sJ c170r0.eq_1 ?_
 intros;refine gr 3 6 ?_;refine sJ2 c170r1.eq_1 @hd ?_
 intros;refine rV ?_;simp only[push_cast,Nat.reduceBEq]
theorem isNaN2_ok(n:Int)(G:Nat→Option Obj):FnS Tryz.prog 137 #[.int .i64 n] G (.bool false):=by
 have hd:decide (n≠n)=false:=by simp
 refine F137.fnS (by simp) (go_of ?_)
 unfold c137
 intros;refine gr 0 0 ?_;refine sJ c137r0.eq_1 ?_
 intros;refine gr 3 6 ?_;refine sJ2 c137r1.eq_1 @hd ?_
 intros;refine rV ?_;simp only[push_cast,Nat.reduceBEq]
theorem Less_ok(a b:Int)(G:Nat→Option Obj):FnS Tryz.prog 136 #[.int .i64 a,.int .i64 b] G (.bool (decide (a < b))):=by
 refine F136.fnS (by simp) (go_of ?_)
 unfold c136
 intros;refine gr 0 0 ?_;refine sJ c136r0.eq_1 ?_
 intros;refine gr 5 17 ?_;refine sJ c136r1.eq_1 ?_
 refine(isNaN_ok _ _ _ _).mono ?_;rintro _ _ ⟨rfl,rfl⟩;refine sI ?_
 intros;refine rV ?_;simp only[push_cast,Nat.reduceBEq]
theorem BSearchI_ok(l:List Int)(n:Int)(v:Value)(G:Nat→Option Obj)(hl:SlV G IE 1 v l)(hs:l.Pairwise (· < ·)):
  FnE Tryz.prog 83 #[v,.int .i64 n] G (fun r=>∃ j:Nat,r=.tuple #[.int .i64 j,.bool (decide (n∈l))]∧j≤l.length∧∀ t y,l[t]?=some y→(t < j→y < n)∧(j≤t→n≤y)):=by
 obtain⟨A,c,rfl,hc,hmx,hA⟩:=hl
 have hmono:∀ (i k:Nat) (x y:Int),i < k→l[i]?=some x→l[k]?=some y→x < y:=fun i k x y hik hx hy=>by
  obtain⟨g1,e1⟩:=List.getElem?_eq_some_iff.1 hx
  obtain⟨g2,e2⟩:=List.getElem?_eq_some_iff.1 hy
  rw[List.pairwise_iff_getElem]at hs
  rw[← e1,← e2]
  exact hs i k g1 g2 hik
 refine F83.fnE (by simp) (go_of ?_)
 unfold c83
 intros;refine gr 0 0 ?_;refine sJ c83r0.eq_1 ?_
 intros;refine gr 10 12 ?_;refine sJ c83r1.eq_1 ?_
 intros;refine gr 12 13 ?_;refine sJ c83r2.eq_1 ?_
 (intros;try refine go_st ?_)
 refine go_loop (fun e h=>∃ i j:Nat,(i≤j∧j≤l.length)∧(∀ t y,l[t]?=some y→(t < i→y < n)∧(j≤t→n≤y))∧e 7=.int .i64 i∧e 8=.int .i64 j∧e 6=.int .i64 l.length∧e 0=.slice A l.length c∧e 1=.int .i64 n∧h=⟨G,[],[]⟩) (fun e h=>iv (e 8) - iv (e 7)) ?_ ?_
 ·exact⟨0,l.length,⟨by omega,by omega⟩,fun t y hy=>⟨fun h=>absurd h (by omega),fun h=>by have:=(List.getElem?_eq_some_iff.1 hy).1;omega⟩,eE,eE,eE,eE,eE,rfl⟩
 rintro e h ⟨i,j,⟨hij,hjn⟩,hat,e7,e8,e6,e0,e1,rfl⟩
 refine go_keep [0,1,6,7,8] ?_
 refine sJ5 @e0 @e1 @e6 @e7 @e8 ?_
 intros;refine gr 13 15 ?_;refine sJ c83r3.eq_1 ?_
 intros;refine gc ?_;refine sI ?_
 refine gb (fun ht=>?_) (fun ht=>?_)
 ·have hlt:i < j:=by simpa using ht
  unfold maxLen at hmx
  obtain⟨m,hm1,hm2,hh,hv⟩:∃ m:Nat,i≤m∧m < j∧binV .shr (.int .u64 (IntKind.u64.wrap (IntKind.i64.wrap ((i:Int)+j)))) (.int .u64 1)=some (.int .u64 (m:Int))∧IntKind.i64.wrap (m:Int)=m :=
   ⟨(i+j) / 2,by omega,by omega,half i j (by omega),cvh i j (by omega)⟩
  obtain⟨x,hx⟩:∃ x,l[m]?=some x:=⟨l[m],List.getElem?_eq_getElem (by omega)⟩
  intros;refine gN ?_
  intros;refine gr 16 22 ?_;refine sJ3 c83r4.eq_1 @hh @hv ?_
  intros;refine gr 22 27 ?_;refine sJ c83r5.eq_1 ?_
  refine hA.x_l1 hx rfl rfl ?_
  rintro a1 ha1 u1 ⟨hu,-⟩
  cases hu
  refine sI ?_
  refine(Less_ok x n _ _ _).mono ?_;rintro _ _ ⟨rfl,rfl⟩;refine sI ?_
  intros;refine gc ?_;refine sI ?_
  refine gb (fun h3=>?_) (fun h3=>?_)
  ·have h3:=of_decide_eq_true h3
   have hw:IntKind.i64.wrap ((m:Int)+1)=(m:Int)+1:=by rw[w64_id] <;> omega
   intros;refine gr 28 30 ?_;refine sJ2 c83r6.eq_1 @hw ?_
   (intros;try refine go_st ?_)
   refine go_l ⟨⟨m+1,j,⟨by omega,by omega⟩,fun t y hy=>⟨fun h=>?_,(hat t y hy).2⟩,(eJ @hw),eE,eE,eE,eE,rfl⟩,?_⟩
   ·by_cases htm:t=m
    ·subst htm;rw[hx]at hy;cases hy;exact h3
    ·have:=hmono t m y x (by omega) hy hx;omega
   refine sJ @hw ?_
   omega
  ·have h3:=of_decide_eq_false h3
   intros;refine gr 30 31 ?_;refine sJ c83r7.eq_1 ?_
   (intros;try refine go_st ?_)
   refine go_l ⟨⟨i,m,⟨by omega,by omega⟩,fun t y hy=>⟨(hat t y hy).1,fun h=>?_⟩,eE,eE,eE,eE,eE,rfl⟩,?_⟩
   ·by_cases htm:t=m
    ·subst htm;rw[hx]at hy;cases hy;omega
    ·have:=hmono m t x y (by omega) hx hy;omega
   refine sI ?_
   omega
 ·have hij':i=j:=by simp at ht;omega
  subst hij'
  have hmem:n∈l↔l[i]?=some n:=by
   constructor
   ·intro h
    obtain⟨t,ht⟩:=List.getElem?_of_mem h
    have:=hat t n ht
    have h1:i≤t:=by
     by_cases h:t < i
     ·have:=this.1 h;omega
     ·omega
    by_cases hti:t=i
    ·rw[← hti];exact ht
    ·have hl:=(List.getElem?_eq_some_iff.1 ht).1
     obtain⟨y,hy⟩:∃ y,l[i]?=some y:=⟨l[i],List.getElem?_eq_getElem (by omega)⟩
     have h2:=(hat i y hy).2 (Nat.le_refl _)
     have h3:=hmono i t y n (by omega) hy ht
     omega
   ·exact fun h=>List.mem_of_getElem? h
  refine go_exit ?_
  refine sI ?_
  intros;refine gr 31 54 ?_;refine sJ c83r8.eq_1 ?_
  refine gd (fun ht=>?_) (fun ht=>?_)
  ·have hlt:i < l.length:=by simpa using ht
   obtain⟨x,hx⟩:∃ x,l[i]?=some x:=⟨l[i],List.getElem?_eq_getElem (by omega)⟩
   have hdm:decide (n∈l)=decide (x=n):=decide_eq_decide.2 (by rw[hmem,hx];simp)
   refine sI ?_
   refine hA.x_l1 hx rfl rfl ?_
   rintro a1 ha1 u1 ⟨hu,-⟩
   cases hu
   refine sI ?_
   refine gd (fun k1=>?_) (fun k1=>?_)
   ·have k1':=of_decide_eq_true k1
    refine sI ?_
    intros;refine rV ?_;simp only[push_cast,Nat.reduceBEq]
    exact⟨i,by rw[hdm,k1],hjn,hat⟩
   ·refine sI ?_
    refine hA.x_l1 hx rfl rfl ?_
    rintro a1 ha1 u1 ⟨hu,-⟩
    cases hu
    refine sI ?_
    refine(isNaN2_ok _ _ _ _).mono ?_;rintro _ _ ⟨rfl,rfl⟩;refine sI ?_
    intros;refine rV ?_;simp only[push_cast,Nat.reduceBEq]
    exact⟨i,by rw[hdm,k1],hjn,hat⟩
  ·have hlt:i=l.length:=by have:=of_decide_eq_false ht;omega
   refine sI ?_
   intros;refine rV ?_;simp only[push_cast,Nat.reduceBEq]
   have hnm:decide (n∈l)=false:=decide_eq_false (by rw[hmem,List.getElem?_eq_none (by omega)];simp)
   exact⟨i,by rw[hnm],hjn,hat⟩
theorem F33:Fun Tryz.prog 33 12 v33 c33 o33:=Fun.mkA Tryz.func33 Tryz.ntmps33
theorem F81:Fun Tryz.prog 81 104 v81 c81 o81:=Fun.mkA Tryz.func81 Tryz.ntmps81
def InsC(P:Program)(f et:Nat):Prop :=
 ∀ (l:List Int) (n:Int) (j:Nat) (A:Option Addr) (c b:Nat) (ys:List Value) (G:Nat→Option Obj),l.Pairwise (· < ·)→n∉l→(j≤l.length∧∀ t y,l[t]?=some y→(t < j→y < n)∧(j≤t→n≤y))→l.length≤1000→I64 n→Cells IE 1 l ys →
  FnO P f #[.slice A l.length c,.int .i64 j,.slice (some ⟨b,0,none⟩) 1 1] G [.row (.slice (some ⟨b,0,none⟩) 1 1) et 1 1 [.int .i64 n],.row (.slice A l.length c) et 1 l.length ys] (fun G' L' r=>∃ A' c' ys',r=.slice A' (joinI l n).length c'∧Cells IE 1 (joinI l n) ys'∧L'=[.row r et 1 (joinI l n).length ys'])
theorem joinI_mem:∀ {l:List Int} {n:Int},l.Pairwise (· < ·)→n∈l→joinI l n=l
 | [],_,_,h=>by cases h
 | m :: l,n,hs,h=>by
  rw[joinI]
  rcases List.mem_cons.1 h with rfl | h
  ·rw[if_neg (by omega),if_pos rfl]
  ·have h1:=(List.pairwise_cons.1 hs).1 n h
   rw[if_pos h1,joinI_mem (List.pairwise_cons.1 hs).2 h]
theorem joinI_in:∀ {l:List Int} {n m:Int},m∈joinI l n→m∈l∨m=n
 | [],n,m,h=>by simp[joinI]at h;exact .inr h
 | x :: l,n,m,h=>by
  rw[joinI]at h
  split at h
  ·rcases List.mem_cons.1 h with rfl | h
   ·exact .inl (.head _)
   ·rcases joinI_in h with h | h
    ·exact .inl (.tail _ h)
    ·exact .inr h
  ·split at h
   ·exact .inl h
   ·rcases List.mem_cons.1 h with rfl | h
    ·exact .inr rfl
    ·exact .inl h
theorem raiseP_1{p:Pt}{j:Nat}{y:Rp}(h0:¬ p.leader < 0)(hj:atR p.reps p.leader=some j)(hy:p.reps[j]?=some y):raiseP p=setR p j { y with high:=max y.high (leastF p.reps j y (EndL y.log) p.isr) }:=by
 unfold raiseP
 rw[if_neg h0,hj]
 dsimp only
 rw[hy]
 rfl
theorem atR_ids:∀ {l m:List Rp} (n:Int),idsR l=idsR m→atR l n=atR m n
 | [],[],_,_=>rfl
 | [],y :: m,_,h=>by cases h
 | x :: l,[],_,h=>by cases h
 | x :: l,y :: m,n,h=>by
  simp only[idsR,List.map_cons,List.cons.injEq]at h
  rw[atR,atR,h.1,atR_ids n h.2]
theorem pt_rep(p:Pt)(x:Nat)(A:Option Addr)(c:Nat)(B:Option Addr)(d:Nat)(ys zs:List Value):
  (PtL p x A c B d ys zs).Perm ([Kx.Item.row (.slice B p.reps.length d) 50 7 p.reps.length zs]++[Kx.Item.blk x (cellT p A c B d),Kx.Item.row (.slice A p.isr.length c) 3 1 p.isr.length ys]):=List.Perm.swap _ _ _
theorem bsI_own(l:List Int)(n:Int)(A:Option Addr)(c:Nat)(ys:List Value)(h:H)(L:List Kx.Item)(hL:h.L.Perm (.row (.slice A l.length c) 3 1 l.length ys :: L))(hy:Cells IE 1 l ys)(hs:l.Pairwise (· < ·)):
  CallsH Tryz.prog 83 #[.slice A l.length c,.int .i64 n] h fun r h'=>(∃ j:Nat,r=.tuple #[.int .i64 j,.bool (decide (n∈l))]∧j≤l.length∧∀ t y,l[t]?=some y→(t < j→y < n)∧(j≤t→n≤y))∧h'=h :=
 callsH_lentp (L1:=[_]) (M:=fun G=>SlV G IE 1 (.slice A l.length c) l) (noRegs_row noRegs_nil) F83.enters hL (lent_cons (M1:=fun G=>SlV G IE 1 (.slice A l.length c) l) (fun L=>gx_slv (by decide) hy) fun G' _ h=>lent_nil h) fun G' hg hp=>BSearchI_ok l n _ G' hp hs L h.D
theorem appsL_sm:∀ {bs:List Batch} {l:Lg},smL l.segs∧l.segs.length≤1000→smL (appsL l bs).1.segs∧(appsL l bs).1.segs.length≤1000
 | [],l,h=>h
 | b :: bs,l,h=>by
  rw[appsL]
  split
  ·rename_i h0
   have hc:=(appL_ok h0).2.2.1
   exact appsL_sm ⟨sm_of hc,by have:=(chkL_0 hc).2.2.2;omega⟩
  ·rename_i h0
   rw[appL_no h0]
   exact⟨fun s hs=>absurd hs (by simp[noneL]),by simp[noneL]⟩
theorem follow_sm{r lead:Rp}(h1:smR r)(h2:smR lead):smR (followR r lead):=by
 have hc:∀ to,smL (caughtL r.log lead.log to).1.segs∧(caughtL r.log lead.log to).1.segs.length≤1000:=fun to=>by
  have ht:=truL_sm (to:=to) h1.1 h1.2.1
  unfold caughtL
  dsimp only
  split
  ·exact ht
  ·exact appsL_sm ht
 have h3:smL (followR r lead).log.segs∧(followR r lead).log.segs.length≤1000:=by
  unfold followR
  dsimp only
  split
  ·exact hc _
  ·exact⟨h2.1,h2.2.1⟩
 exact⟨h3.1,h3.2,h2.2.2⟩
theorem Pull1_ok(p:Pt)(n:Int)(b3 k:Nat)(r:Rp)(G:Nat→Option Obj)(hok:okP p)(hsm:smP p)(hI:I64P p)(hn:I64 n)(h3:cellG G ⟨b3,0,none⟩=some (.int .i64 n))(hk:atR p.reps n=some k)(hr:p.reps[k]?=some r)
  (hins:InsC Tryz.prog 84 3∨n∈p.isr∨∀ j lead,atR p.reps p.leader=some j→p.reps[j]?=some lead→EndL (followR r lead).log < lead.high) :
  DoesR G 81 #[.pointer (some ⟨b3,0,none⟩)] p k (pullF n p k r):=by
 intro G1 x A c ga d ys zs hg hy hz
 have h3:=cellG_le hg h3
 rw[show(#[.pointer (some ⟨x,0,none⟩),.pointer (some ⟨ga,k * 7,none⟩)]++#[.pointer (some ⟨b3,0,none⟩)]:Array Value)=#[.pointer (some ⟨x,0,none⟩),.pointer (some ⟨ga,k * 7,none⟩),.pointer (some ⟨b3,0,none⟩)]from rfl]
 have hsr:=hsm.1 r (List.mem_of_getElem? hr)
 have hkl:=(List.getElem?_eq_some_iff.1 hr).1
 have hrn:r.id=n:=by
  obtain⟨r',h1,h2⟩:=atR_get hk
  rw[hr]at h1
  cases h1
  exact h2
 obtain⟨cs,hre,hcl,hld⟩:=hz.get hr
 obtain⟨A1,c1,B1,d1,rfl,-⟩:=hre
 refine F81.fnO (by simp) noRegs_pt (go_of ?_)
 unfold c81
 have hno:p.leader < 0∨r.up=false→∀ (fr:List Td) (e:Env) (h:H),go none Tryz.prog 104 v81.1 v81.2 (retQ o81 fun v h=>ChgR (pullF n p k r) x (· = []) h.G h.L v) (Td.s ((SC.reg false c81r2).seq .ret) :: fr) e h:=fun h fr e h=>by
  intros;refine gr 0 0 ?_;refine sJ c81r2.eq_1 ?_
  intros
  refine go_ret (retQ_o [] rfl (List.nil_sublist _) noRegs_nil ?_)
  rw[pullF,if_pos ‹_›]
  exact chg_e x _ (by decide)
 intros;refine gr 0 0 ?_;refine sJ c81r0.eq_1 ?_
 intros;try refine go_seq ?_
 intros;try refine go_seq ?_
 intros;refine gr 10 22 ?_;refine sJ c81r1.eq_1 ?_
 refine⟨_,ldN_blk (cs:=cellT p A c (some ⟨ga,0,none⟩) d) (.head _) rfl,?_⟩
 refine sI ?_
 refine gd (fun k1=>?_) (fun k1=>?_)
 ·have k1:=of_decide_eq_true k1
  refine sI ?_
  intros;refine gc ?_;refine sI ?_
  exact hno (.inl k1) _ _ _
 have k1:=of_decide_eq_false k1
 refine sI ?_
 refine⟨_,ldN_row (.tail _ (.head _)) (hld 1 _ rfl),?_⟩
 refine sI ?_
 intros;refine gc ?_;refine sI ?_
 refine gb (fun k2=>?_) (fun k2=>?_)
 ·have k2:r.up=false:=by simpa using k2
  exact hno (.inr k2) _ _ _
 have k2:r.up=true:=by simpa using k2
 have k12:¬ (p.leader < 0∨r.up=false):=fun h=>by rcases h with h | h;exact k1 h;rw[k2]at h;cases h
 clear hno
 intros;refine gN ?_
 intros;try refine go_seq ?_
 intros;try refine go_seq ?_
 (intros;try refine go_st ?_);refine go_q 23 29 (by decide) ?_;refine sJ c81r3.eq_1 ?_
 refine⟨_,⟨_,rfl,.g h3⟩,?_⟩
 refine sI ?_
 refine⟨_,ldN_blk (cs:=cellT p A c (some ⟨ga,0,none⟩) d) (.head _) rfl,?_⟩
 refine sI ?_
 intros;refine gc ?_;refine sI ?_
 refine gb (fun k3=>?_) (fun k3=>?_)
 ·have k3:=of_decide_eq_true k3
  intros;refine gr 0 0 ?_;refine sJ c81r4.eq_1 ?_
  intros
  refine go_ret (retQ_o _ rfl (List.Sublist.refl _) noRegs_pt ?_)
  rw[pullF,if_neg k12,if_pos k3]
  exact chg_0 hy hz hI
 have k3:=of_decide_eq_false k3
 obtain⟨j,lead,hj,hl,hli⟩:=lead_at hok k1
 have hjl:=(List.getElem?_eq_some_iff.1 hl).1
 have hjk:j≠k:=fun h=>by
  subst h
  rw[hr]at hl
  cases hl
  exact k3 (by rw[← hrn,hli])
 have hpt:ptrR (some ⟨ga,0,none⟩) (some j)=some ⟨ga,j * 7,none⟩:=congrArg some (add_mk _ _)
 intros;refine gN ?_
 intros;try refine go_seq ?_
 intros;refine gr 30 37 ?_;refine sJ c81r5.eq_1 ?_
 refine⟨_,ldN_blk (cs:=cellT p A c (some ⟨ga,0,none⟩) d) (.head _) rfl,?_⟩
 refine sI ?_
 refine(at_own p x A c (some ⟨ga,0,none⟩) d ys zs p.leader _ [] (by simp) hy hz hI.2.1 (okIds_of hok)).mono ?_
 rintro _ _ ⟨rfl,rfl⟩
 rw[hj,hpt]
 refine sI ?_
 have hsl:=hsm.1 lead (List.mem_of_getElem? hl)
 obtain⟨cs,hle,hcl2,hld2⟩:=hz.get hl
 have hfo:=follow_ok p.reps k r lead ga d zs cs G1 hz hr hle hsr hsl
 obtain⟨A2,c2,B2,d2,rfl,-⟩:=hle
 unfold cellP at hfo
 intros;try refine go_seq ?_
 intros;refine gr 37 42 ?_;refine sJ c81r6.eq_1 ?_
 refine⟨_,ldN_rowN (.tail _ (.head _)) hcl2 hld2,?_⟩
 unfold cellP
 refine sI ?_
 refine CallsH.ghost (h':=⟨G1,[.row (.slice (some ⟨ga,0,none⟩) p.reps.length d) 50 7 p.reps.length zs]++[.blk x (cellT p A c (some ⟨ga,0,none⟩) d),.row (.slice A p.isr.length c) 3 1 p.isr.length ys],[]⟩) (ghost_perm (pt_rep p x A c (some ⟨ga,0,none⟩) d ys zs)) ?_
 refine(hfo _ _).mono ?_
 rintro v h' ⟨G2,L',rfl,hg2,rfl,zs1,rfl,hz1⟩
 refine sI ?_
 intros
 refine go_ghost (h':=⟨G2,PtL p x A c (some ⟨ga,0,none⟩) d ys zs1,[]⟩) (ghost_perm (pt_rep p x A c (some ⟨ga,0,none⟩) d ys zs1).symm) ?_
 have hsf:=follow_sm hsr hsl
 have hrf:=set_get (y:=followR r lead) hr
 have hlf:(p.reps.set k (followR r lead))[j]?=some lead:=by rw[List.getElem?_set_ne (Ne.symm hjk)];exact hl
 have hpf:pullF n p k r=(setR (raiseP { p with isr:=if lead.high≤EndL (followR r lead).log then joinI p.isr n else p.isr,reps:=p.reps.set k { followR r lead with high:=min r.high (EndL (followR r lead).log) } }) k
   { followR r lead with high:=min (max (min r.high (EndL (followR r lead).log)) ((raiseP { p with isr:=if lead.high≤EndL (followR r lead).log then joinI p.isr n else p.isr,reps:=p.reps.set k { followR r lead with high:=min r.high (EndL (followR r lead).log) } }).reps[j]?.getD lead).high) (EndL (followR r lead).log) },0):=by
  unfold pullF
  rw[if_neg k12,if_neg k3,hj]
  dsimp only
  rw[hl]
 have hfh:(followR r lead).high=r.high∧(followR r lead).id=r.id:=⟨rfl,rfl⟩
 have hins:InsC Tryz.prog 84 3∨n∈p.isr∨EndL (followR r lead).log < lead.high:=by
  rcases hins with h | h | h
  ·exact .inl h
  ·exact .inr (.inl h)
  ·exact .inr (.inr (h j lead hj hl))
 rw[hpf]
 clear hpf hfo
 generalize followR r lead=fr at *
 obtain⟨cs,hre,hcl,hld⟩:=hz1.get hrf
 have hend:=pend_ok fr cs G2 hre hsf.1 (by have:=hsf.2.1;omega)
 have hei:=EndL_i fr.log
 obtain⟨A1,c1,B1,d1,rfl,-,-,-,-,hfi⟩:=hre
 unfold cellP at hend
 intros;try refine go_seq ?_
 intros;refine gr 42 46 ?_;refine sJ c81r7.eq_1 ?_
 refine⟨_,ldN_rowN (.tail _ (.head _)) hcl hld,?_⟩
 unfold cellP
 refine sI ?_
 refine(hend _ _).mono ?_;rintro _ _ ⟨rfl,rfl⟩;refine sI ?_
 generalize EndL fr.log=last at *
 have hz2:Cells (RE G2) 7 (p.reps.set k { fr with high:=min r.high last }) (splice zs1 (k * 7+6) [.int .i64 (min fr.high last)]):=by
  have:=Cells.setF (E:=RE G2) (o:=6) (us:=[.int .i64 (min fr.high last)]) (x':={ fr with high:=min r.high last }) hz1 hrf (by simp) fun cs h hl=>by
   obtain⟨A5,c5,B5,d5,rfl,q1,q2,q3,q4,q5⟩:=h
   refine⟨A5,c5,B5,d5,?_,q1,q2,q3,q4,by unfold I64 at q5 ⊢;rw[hfh.1]at q5;show _≤min r.high last∧min r.high last≤_;omega⟩
   rw[hfh.1]
   rfl
  rwa [List.set_set]at this
 have hzl1:=hz1.len
 rw[List.length_set]at hzl1
 intros;try refine go_seq ?_
 intros;refine gr 46 55 ?_;refine sJ c81r8.eq_1 ?_
 refine⟨_,ldN_row (.tail _ (.head _)) (hld 6 _ rfl),?_⟩
 refine sI ?_
 refine stX_row [_] _ rfl (by simp;omega) ⟨rfl,rfl⟩ ?_
 refine sI ?_
 generalize splice zs1 (k * 7+6) [.int .i64 (min fr.high last)]=zs2 at *
 have hrj:(p.reps.set k { fr with high:=min r.high last })[j]?=some lead:=by rw[List.getElem?_set_ne (Ne.symm hjk)];exact hl
 obtain⟨cs,hre2,hcl2',hld2'⟩:=hz2.get hrj
 obtain⟨A3,c3,B3,d3,rfl,-⟩:=hre2
 have hs:=hok.2.1.1.2.2
 generalize hiq:(if lead.high≤last then joinI p.isr n else p.isr)=isr' at *
 intros;try refine go_seq ?_
 refine go_cut (fun e h=>∃ (G3:Nat→Option Obj) (A3:Option Addr) (c3:Nat) (ys3:List Value) (Lh:List Kx.Item),(Gle G2 G3∧Cells IE 1 isr' ys3)∧e 0=.pointer (some ⟨x,0,none⟩)∧e 1=.pointer (some ⟨ga,k * 7,none⟩)∧e 6=.pointer (some ⟨ga,j * 7,none⟩)∧e 7=.int .i64 last∧h=⟨G3,Lh,[]⟩∧Lh.Perm (PtL { p with isr:=isr' } x A3 c3 (some ⟨ga,0,none⟩) d ys3 zs2)) ?_ ?_
 ·intros;try refine go_seq ?_
  (intros;try refine go_st ?_);refine go_x _ (List.Sublist.refl _) (by decide) ?_;refine sJ c81r9.eq_1 ?_
  refine⟨_,ldN_blk (cs:=cellT p A c (some ⟨ga,0,none⟩) d) (.head _) rfl,?_⟩
  refine sI ?_
  refine⟨_,⟨_,rfl,.g (cellG_le hg2 h3)⟩,?_⟩
  refine sI ?_
  refine(bsI_own p.isr n A c ys _ _ (List.perm_append_comm (l₁:=[_,_]) (l₂:=[_])) hy hs).mono ?_
  rintro _ _ ⟨⟨jj,rfl,hjj,hat⟩,rfl⟩
  refine sI ?_
  intros;try refine go_seq ?_
  intros;refine gr 65 74 ?_;refine sJ c81r10.eq_1 ?_
  refine⟨_,ldN_row (.tail _ (.head _)) (hld2' 6 _ rfl),?_⟩
  refine sI ?_
  have hd:decide (last≥lead.high)=decide (lead.high≤last):=rfl
  refine gd (fun k4=>?_) (fun k4=>?_)
  ·have k4:lead.high≤last:=of_decide_eq_true k4
   rw[if_pos k4]at hiq
   refine sI ?_
   intros;refine gc ?_;refine sI ?_
   refine gb (fun k5=>?_) (fun k5=>?_)
   ·have k5:n∉p.isr:=by simpa using k5
    have hI:InsC Tryz.prog 84 3:=by
     rcases hins with h | h | h
     ·exact h
     ·exact absurd h k5
     ·omega
    (intros;try refine go_st ?_);refine go_y _ (.cons_cons _ (.cons_cons _ (List.nil_sublist _))) (by decide) ?_;refine sJ c81r11.eq_1 ?_
    refine⟨_,ldN_blk (cs:=cellT p A c (some ⟨ga,0,none⟩) d) (.head _) rfl,?_⟩
    refine sI ?_
    refine⟨_,⟨_,rfl,.g (cellG_le hg2 h3)⟩,?_⟩
    refine sI ?_
    intro bv hbv
    refine⟨grow_L (fun _ _ h=>h) (.cons _ (.cons_cons _ (.cons_cons _ (List.nil_sublist _)))),?_⟩
    refine CallsH.ghost (h':=⟨G2,[.row (.slice (some ⟨bv,0,none⟩) 1 1) 3 1 1 [.int .i64 n],.row (.slice A p.isr.length c) 3 1 p.isr.length ys]++[.blk x (cellT p A c (some ⟨ga,0,none⟩) d),.row (.slice (some ⟨ga,0,none⟩) p.reps.length d) 50 7 p.reps.length zs2],[]⟩) (ghost_perm (.cons _ (List.perm_append_comm (l₁:=[_,_]) (l₂:=[_])))) ?_
    refine((hI p.isr n jj A c bv ys G2 hs k5 ⟨hjj,hat⟩ (by have:=hsm.2.2;omega) hn hy) _ _).mono ?_
    rintro r' h' ⟨G3,L',rfl,hg3,A4,c4,ys4,rfl,hy4,rfl⟩
    rw[hiq]at hy4 ⊢
    refine⟨grow_L hg3 (.cons _ (.cons_cons _ (.cons_cons _ (List.nil_sublist _)))),?_⟩
    refine sJ c81r12.eq_1 ?_
    refine stX_blk [_] _ rfl (by simp[cellT]) ⟨rfl,rfl⟩ ?_
    refine sI ?_
    exact go_l ⟨G3,A4,c4,ys4,_,⟨hg3,hy4⟩,eE,eE,eE,eE,rfl,List.perm_append_comm (l₁:=[_]) (l₂:=[_,_])⟩
   ·have k5:n∈p.isr:=by simpa using k5
    rw[joinI_mem hs k5]at hiq
    subst hiq
    intros;refine gN ?_
    exact go_l ⟨G2,A,c,ys,_,⟨.refl _,hy⟩,eE,eE,eE,eE,rfl,List.Perm.refl _⟩
  ·have k4:¬ lead.high≤last:=of_decide_eq_false k4
   rw[if_neg k4]at hiq
   subst hiq
   refine sI ?_
   intros;refine gc ?_;refine sI ?_
   intros;refine gN ?_
   exact go_l ⟨G2,A,c,ys,_,⟨.refl _,hy⟩,eE,eE,eE,eE,rfl,List.Perm.refl _⟩
 rintro e h ⟨G3,A3,c3,ys3,Lh,⟨hg3,hy3⟩,e0,e1,e6,e7,rfl,hperm⟩
 refine go_keep [0,1,6,7] ?_
 refine sJ4 @e0 @e1 @e6 @e7 ?_
 intros
 refine go_ghost (ghost_perm hperm) ?_
 have hid1:idsR (p.reps.set k { fr with high:=min r.high last })=idsR p.reps:=ids_set hr hfh.2
 have hz3:=cells_imp hz2 fun _ _ h=>RE.le hg3 h
 have hraise:=raise_ok (setR { p with isr:=isr' } k { fr with high:=min r.high last }) x A3 c3 (some ⟨ga,0,none⟩) d ys3 zs2 G3 hy3 hz3 (okIds_set hr hfh.2 (okIds_of (p:=p) hok))
  (fun m hm=>by
   show m∈idsR (p.reps.set k _)
   rw[hid1]
   have hm:m∈isr':=hm
   rw[← hiq]at hm
   split at hm
   ·rcases joinI_in hm with h | rfl
    ·exact hok.2.1.2 m h
    ·exact List.mem_map.2 ⟨r,List.mem_of_getElem? hr,hrn⟩
   ·exact hok.2.1.2 m hm)
  (smW_of <| smR_set hsm.1 hsf) hI
 rw[ptL_set]at hraise
 have hR:=raiseP_1 (p:=setR { p with isr:=isr' } k { fr with high:=min r.high last }) k1 ((atR_ids (m:=p.reps) _ hid1).trans hj) hrj
 have hRs:=raiseP_same (setR { p with isr:=isr' } k { fr with high:=min r.high last })
 have hRi:=raiseP_i (p:=setR { p with isr:=isr' } k { fr with high:=min r.high last }) hI
 generalize leastF _ _ _ _ _=lf at hR
 have hj2:(raiseP (setR { p with isr:=isr' } k { fr with high:=min r.high last })).reps[j]?=some { lead with high:=max lead.high lf }:=by
  rw[hR]
  exact set_get hrj
 have hk2:(raiseP (setR { p with isr:=isr' } k { fr with high:=min r.high last })).reps[k]?=some { fr with high:=min r.high last }:=by
  rw[hR]
  show((p.reps.set k _).set j _)[k]?=_
  rw[List.getElem?_set_ne hjk]
  exact set_get hr
 change go _ _ _ _ _ (retQ _ fun v h=>ChgR (setR (raiseP (setR { p with isr:=isr' } k { fr with high:=min r.high last })) k { fr with high:=min (max (min r.high last) (((raiseP (setR { p with isr:=isr' } k { fr with high:=min r.high last })).reps[j]?).getD lead).high) last },0) x (· = []) h.G h.L v) _ _ _
 rw[hj2,Option.getD_some]
 have hyr:Cells IE 1 (raiseP (setR { p with isr:=isr' } k { fr with high:=min r.high last })).isr ys3:=by rw[hRs.2.2.2.1];exact hy3
 intros;try refine go_seq ?_
 intros;refine gr 88 90 ?_;refine sJ c81r13.eq_1 ?_
 rw[← List.append_nil (PtL { p with isr:=isr' } x A3 c3 (some ⟨ga,0,none⟩) d ys3 zs2)]
 refine(hraise _ _).mono ?_
 rintro r' h' ⟨G4,L',rfl,hg4,rfl,zs',rfl,hz'⟩
 rw[List.append_nil]
 clear hR hRs hraise
 generalize raiseP (setR { p with isr:=isr' } k { fr with high:=min r.high last })=p2 at *
 obtain⟨cs,hre,-,hldk⟩:=hz'.get hk2
 obtain⟨A8,c8,B8,d8,rfl,-⟩:=hre
 obtain⟨cs,hre,-,hldj⟩:=hz'.get hj2
 obtain⟨A9,c9,B9,d9,rfl,-⟩:=hre
 have hzl4:=hz'.len
 have hkl2:=(List.getElem?_eq_some_iff.1 hk2).1
 refine sI ?_
 intros;try refine go_seq ?_
 (intros;try refine go_st ?_);refine go_t (by decide) ?_;refine sJ c81r14.eq_1 ?_
 refine⟨_,ldN_row (.tail _ (.head _)) (hldk 6 _ rfl),?_⟩
 refine sI ?_
 refine⟨_,ldN_row (.tail _ (.head _)) (hldj 6 _ rfl),?_⟩
 refine sJ c81r15.eq_1 ?_
 refine stX_row [_] _ rfl (by simp;omega) ⟨rfl,rfl⟩ ?_
 have hz5:Cells (RE G4) 7 (p2.reps.set k { fr with high:=min (max (min r.high last) (max lead.high lf)) last }) (splice zs' (k * 7+6) [.int .i64 (min (max (min r.high last) (max lead.high lf)) last)]) :=
  Cells.setF (E:=RE G4) (o:=6) (us:=[.int .i64 (min (max (min r.high last) (max lead.high lf)) last)]) (x':={ fr with high:=min (max (min r.high last) (max lead.high lf)) last }) hz' hk2 (by simp) fun cs h hl=>by
   obtain⟨A5,c5,B5,d5,rfl,q1,q2,q3,q4,q5⟩:=h
   have q5:I64 (min r.high last):=q5
   exact⟨A5,c5,B5,d5,rfl,q1,q2,q3,q4,by unfold I64 at q5 ⊢;show _≤min _ last∧min _ last≤_;omega⟩
 refine sI ?_
 intros;try refine go_seq ?_
 intros;refine gr 0 0 ?_;refine sJ c81r16.eq_1 ?_
 intros
 exact go_ret (retQ_o _ rfl (List.Sublist.refl _) noRegs_pt (chg_set hyr hz5 hRi))
theorem Pull_ok(p:Pt)(cs:List Value)(n:Int)(G:Nat→Option Obj)(hp:PE G p cs)(hsm:smP p)(hn:I64 n)
  (hins:InsC Tryz.prog 84 3∨n∈p.isr∨∀ k r j lead,atR p.reps n=some k→p.reps[k]?=some r→atR p.reps p.leader=some j→p.reps[j]?=some lead→EndL (followR r lead).log < lead.high) :
  FnD Tryz.prog 33 #[.agg cs.toArray,.int .i64 n] G (PtR (ofP p n (pullF n))):=by
 have hp0:=hp
 obtain⟨A,c,B,d,rfl,-,-,hI⟩:=hp
 refine F33.fnD (by simp) (go_of ?_)
 unfold c33
 unfold cellT at hp0 ⊢
 intros;refine gr 0 0 ?_;refine sJ c33r0.eq_1 ?_
 intro b3 hb3
 refine sI ?_
 intros
 refine go_gx (gx_blk_at [_] _) ?_
 rintro h' ⟨G1,rfl,hg1,f3⟩
 have f3:=f3 0 _ rfl
 rw[add_off]at f3
 have hof:=of_ok p _ n 81 #[.pointer (some ⟨b3,0,none⟩)] (pullF n p) G1 (hp0.le hg1) hsm hn fun hok k r hk hr=>Pull1_ok p n b3 k r G1 hok hsm hI hn f3 hk hr (by
  rcases hins with h | h | h
  ·exact .inl h
  ·exact .inr (.inl h)
  ·exact .inr (.inr fun j lead=>h k r j lead hk hr))
 rw[← ofP_eq]at hof
 intros;refine gr 6 12 ?_;refine sJ c33r1.eq_1 ?_
 refine⟨_,⟨_,rfl,.g f3⟩,?_⟩
 refine sI ?_
 refine(hof _ _).mono ?_
 rintro r h' ⟨G2,rfl,hg2,cs2,rfl,hpe⟩
 have hpe0:=hpe
 obtain⟨A2,c2,B2,d2,rfl,-⟩:=hpe
 unfold cellT at hpe0 ⊢
 refine sI ?_
 intros;refine rV ?_;simp only[push_cast,Nat.reduceBEq]
 exact⟨_,rfl,hpe0⟩
def exB:Batch:=⟨0,1,0,0,-1,0,0,false,0,[⟨0,⟨#[]⟩,⟨#[118]⟩,false,0⟩,⟨1,⟨#[]⟩,⟨#[119]⟩,false,0⟩]⟩
def exB1:Batch:={ exB with epoch:=1 }
theorem exB_err:errB exB=0:=by decide +kernel
theorem exB1_err:errB exB1=0:=by decide +kernel
theorem exB1_len:(bytesB exB1).length≤4096:=by have:=(errB_ok exB1_err).2;omega
theorem exB_mov:movedB exB 0=(exB,0):=by
 have h:movB exB 0=exB:=by decide +kernel
 rw[movedB,if_pos (by decide),if_pos exB_err,h,if_pos exB_err]
def exL0:Lg:=⟨4096,0,[⟨0,[]⟩]⟩
def exL1:Lg:=⟨4096,0,[⟨0,bytesB exB1⟩]⟩
theorem ex_may:mayO 4096 0=true:=by decide
theorem ex_new:newL 4096 0=(exL0,0):=by rw[newL,if_pos ex_may];rfl
theorem ex_c0:chkL exL0=0:=new_chk ex_may
theorem ex_e0:EndL exL0=0:=by rw[EndL,if_pos ex_c0];rfl
theorem ex_app:appL exL0 exB1=(exL1,0):=by
 have h1:lastS exL0=⟨0,[]⟩:=rfl
 have hl:=exB1_len
 have h2:appS ⟨0,[]⟩ exB1 4096=(⟨0,bytesB exB1⟩,0):=by
  have h3:=appS_w (s:=⟨0,[]⟩) (b:=exB1) (limit:=4096) (whole_iff.2 ⟨rfl,by decide⟩) (by decide) exB1_err (by decide)
  rw[h3,if_neg (by simp;omega)]
  simp
 have hlm:exL0.limit=4096:=rfl
 rw[appL,if_pos ex_c0,if_pos exB1_err,if_neg (by decide),if_neg (by rw[hlm];omega),h1,hlm,h2,if_pos rfl]
 rfl
theorem ex_c1:chkL exL1=0:=by
 obtain⟨-,-,h,-⟩:=appL_ok (l:=exL0) (b:=exB1) (by rw[ex_app])
 rwa [ex_app]at h
theorem ex_e1:EndL exL1=2:=by
 obtain⟨-,-,-,h,-⟩:=appL_ok (l:=exL0) (b:=exB1) (by rw[ex_app])
 rw[ex_app]at h
 rw[EndL,if_pos ex_c1]
 exact h
theorem ex_a0:AllL exL0=[]:=by rw[AllL,if_pos ex_c0];rfl
theorem ex_a1:AllL exL1=[exB1]:=by
 have:=appL_all (l:=exL0) (b:=exB1) (by rw[ex_app])
 rw[ex_app]at this
 rw[AllL,if_pos ex_c1]
 exact this
theorem ex_tru:truL exL0 0=(exL0,0):=by
 have h1:betw exL0 0=true:=by decide
 rw[truL,if_pos ex_c0,if_pos h1]
 rfl
theorem ex_torn:tornL exL1 0=exL1:=by
 have h:∀ s:Sg,tornS s 0=s:=fun s=>by
  unfold tornS
  rw[show(min (0:Int) s.bytes.length).toNat=0 by omega,Nat.sub_zero,List.take_length]
 unfold tornL
 rw[h]
 rfl
def exR(n:Int)(up:Bool)(l:Lg)(e:List Ep)(h:Int):Rp:=⟨n,up,l,e,h⟩
def exE:List Ep:=[(1,0)]
theorem ex_ce:chkN exE=0:=by
 unfold chkN
 rw[if_pos]
 intro i x hi hx
 match i,hi,hx with
 | 0,_,hx=>cases hx;exact⟨by decide,fun p h=>absurd h (by omega)⟩
theorem ex_cn:chkN ([]:List Ep)=0:=by
 unfold chkN
 rw[if_pos]
 intro i x hi
 simp at hi
theorem ex_put:putM [] 1 0=(exE,0):=by
 rw[putM_eq ex_cn (by decide)]
 rfl
theorem ex_cut:cutM exE 2=exE:=by
 unfold cutM
 rw[ex_ce]
 rfl
theorem ex_m0(b:List Ep)(ae be:Int):meetE [] b ae be=0:=by
 unfold meetE
 split
 ·rename_i h
  exact meet_zero (Classical.choose_spec h) (.inr (.inr (.inl rfl)))
 ·rfl
theorem ex_mE:meetE exE exE 2 2=2:=by
 refine meetE_is (.inr ⟨ex_ce,ex_ce,.inr ⟨0,(1,0),0,(1,0),rfl,rfl,rfl,fun i' x' k' y' hi hx=>?_,rfl⟩⟩)
 have:=(List.getElem?_eq_some_iff.1 hx).1
 simp[exE]at this
 omega
def exA0(n:Int):Rp:=exR n true exL0 [] 0
def exA1(n h:Int):Rp:=exR n true exL1 exE h
def exD:Rp:=exR 0 false exL1 exE 2
theorem ok_A0{n:Int}(h:idI n=true):okR (exA0 n):=⟨⟨h,ex_cn,by show(0:Int)≤0;decide,by show(0:Int)≤_;decide⟩,ex_c0,fun _=>by show(0:Int)≤EndL exL0;rw[ex_e0];decide⟩
theorem ok_A1{n m:Int}(h:idI n=true)(h1:0≤m)(h2:m≤2):okR (exA1 n m):=⟨⟨h,ex_ce,h1,by show m≤_;omega⟩,ex_c1,fun _=>by show m≤EndL exL1;rw[ex_e1];exact h2⟩
theorem ok_D:okR exD:=⟨⟨by decide,ex_ce,by decide,by decide⟩,by show chkL (recL exL1).1=0;rw[recL_ok ex_c1];exact ex_c1,fun h=>by cases h⟩
def exP(ep ld:Int)(is:List Int)(a b c:Rp):Pt:=⟨ep,ld,1,is,[a,b,c]⟩
theorem ok_P{ep ld:Int}{is:List Int}{a b c:Rp}(h1:idI ep=true)(h2:idsR [a,b,c]=[0,1,2])(h3:okR a∧okR b∧okR c)(h4:RisesI is∧∀ n∈is,n∈([0,1,2]:List Int))(h5:ld=-1∨(∃ r∈[a,b,c],r.id=ld∧r.up=true)∧ld∈is):chkPt (exP ep ld is a b c)=0:=by
 refine chkPt_yes ⟨⟨h1,?_,by show[a,b,c].length≤5;simp,⟨by show(1:Int)≤1;omega,by show(1:Int)≤(([a,b,c].length:Nat):Int);simp⟩,fun r hr=>?_⟩,⟨h4.1,fun n hn=>?_⟩,h5⟩
 ·show RisesI (idsR [a,b,c])
  rw[h2]
  refine⟨by simp,fun n hn=>?_,by decide⟩
  simp at hn
  rcases hn with rfl | rfl | rfl <;> decide
 ·have hr:r∈[a,b,c]:=hr
  simp at hr
  rcases hr with rfl | rfl | rfl
  ·exact h3.1
  ·exact h3.2.1
  ·exact h3.2.2
 ·show n∈idsR [a,b,c]
  rw[h2]
  exact h4.2 n hn
theorem r012:RisesI [0,1,2]∧∀ n∈([0,1,2]:List Int),n∈([0,1,2]:List Int):=⟨⟨by simp,by decide,by decide⟩,fun n h=>h⟩
theorem r01:RisesI [0,1]∧∀ n∈([0,1]:List Int),n∈([0,1,2]:List Int):=⟨⟨by simp,by decide,by decide⟩,by decide⟩
theorem r1:RisesI [1]∧∀ n∈([1]:List Int),n∈([0,1,2]:List Int):=⟨⟨by simp,by decide,by decide⟩,by decide⟩
def exP0:Pt:=exP 1 0 [0,1,2] (exA0 0) (exA0 1) (exA0 2)
def exPa:Pt:=exP 1 0 [0,1,2] (exA1 0 0) (exA0 1) (exA0 2)
def exPb:Pt:=exP 1 0 [0,1,2] (exA1 0 0) (exA1 1 0) (exA0 2)
def exPc:Pt:=exP 1 0 [0,1] (exA1 0 2) (exA1 1 0) (exA0 2)
def exPd:Pt:=exP 1 (-1) [1] exD (exA1 1 0) (exA0 2)
def exPx:Pt:=exP 2 1 [1] exD (exA1 1 2) (exA0 2)
def exPy:Pt:=exP 2 1 [1] (exA1 0 2) (exA1 1 2) (exA0 2)
theorem ex_P0:chkPt exP0=0:=ok_P (by decide) rfl ⟨ok_A0 (by decide),ok_A0 (by decide),ok_A0 (by decide)⟩ r012 (.inr ⟨⟨exA0 0,.head _,rfl,rfl⟩,.head _⟩)
theorem ex_Pa:chkPt exPa=0:=ok_P (by decide) rfl ⟨ok_A1 (by decide) (by decide) (by decide),ok_A0 (by decide),ok_A0 (by decide)⟩ r012 (.inr ⟨⟨exA1 0 0,.head _,rfl,rfl⟩,.head _⟩)
theorem ex_Pb:chkPt exPb=0:=ok_P (by decide) rfl ⟨ok_A1 (by decide) (by decide) (by decide),ok_A1 (by decide) (by decide) (by decide),ok_A0 (by decide)⟩ r012 (.inr ⟨⟨exA1 0 0,.head _,rfl,rfl⟩,.head _⟩)
theorem ex_Pc:chkPt exPc=0:=ok_P (by decide) rfl ⟨ok_A1 (by decide) (by decide) (by decide),ok_A1 (by decide) (by decide) (by decide),ok_A0 (by decide)⟩ r01 (.inr ⟨⟨exA1 0 2,.head _,rfl,rfl⟩,.head _⟩)
theorem ex_Pd:chkPt exPd=0:=ok_P (by decide) rfl ⟨ok_D,ok_A1 (by decide) (by decide) (by decide),ok_A0 (by decide)⟩ r1 (.inl rfl)
theorem ex_Px:chkPt exPx=0:=ok_P (by decide) rfl ⟨ok_D,ok_A1 (by decide) (by decide) (by decide),ok_A0 (by decide)⟩ r1 (.inr ⟨⟨exA1 1 2,.tail _ (.head _),rfl,rfl⟩,.head _⟩)
theorem ex_Py:chkPt exPy=0:=ok_P (by decide) rfl ⟨ok_A1 (by decide) (by decide) (by decide),ok_A1 (by decide) (by decide) (by decide),ok_A0 (by decide)⟩ r1 (.inr ⟨⟨exA1 1 2,.tail _ (.head _),rfl,rfl⟩,.head _⟩)
theorem ex_newP:newP [0,1,2] 4096 1=(exP0,0):=by
 unfold newP
 rw[ex_new,if_pos ⟨rfl,r012.1,by decide,by decide,by decide⟩]
 rfl
theorem ex_none:chkPt noneP=1:=chkPt_no fun h=>h.1.2.1.1 rfl
theorem mp_0(n m h:Int):meetP (exA0 n) (exA1 m h)=0:=ex_m0 _ _ _
theorem mp_1(n m h h':Int):meetP (exA1 n h) (exA1 m h')=2:=by
 show meetE exE exE (EndL exL1) (EndL exL1)=2
 rw[ex_e1]
 exact ex_mE
theorem step_eq{l:List Rp}{k:Nat}{r:Rp}{m n:Int}(h:atR l n=some k):stepF l k r m n=m:=by
 unfold stepF
 rw[h]
 dsimp only
 rw[if_pos rfl]
theorem step_ne{l:List Rp}{k i:Nat}{r x:Rp}{m n:Int}(h:atR l n=some i)(hik:i≠k)(hx:l[i]?=some x):stepF l k r m n=min m (meetP x r):=by
 unfold stepF
 rw[h]
 dsimp only
 rw[if_neg hik,hx]
theorem chgQ_0{p q:Pt}(h:chkPt p=0):chgQ p (q,0)=(q,0):=by rw[chgQ,if_pos h];rfl
theorem chgQ_e{p q:Pt}{e:Int}(h:chkPt p=0)(he:e≠0):chgQ p (q,e)=(noneP,e):=by rw[chgQ,if_pos h,if_neg he]
theorem appP_eq(p:Pt)(b:Batch):appP p b=if (chgQ p (appF b p).1).2=0 then(chgQ p (appF b p).1,(appF b p).2)else((noneP,(chgQ p (appF b p).1).2),0):=rfl
theorem appF_ok{p:Pt}{b mb:Batch}{k:Nat}{r:Rp}{en:Int}{al:Lg}{pl:List Ep}(k1:¬ p.leader < 0)(k2:¬ (p.isr.length:Int) < p.least)(hk:atR p.reps p.leader=some k)(hr:p.reps[k]?=some r)(he:EndL r.log=en)
  (hm:movedB b en=(mb,0)) (ha:appL r.log { mb with epoch:=p.epoch }=(al,0)) (hp:putM r.eps p.epoch mb.base=(pl,0)):appF b p=((raiseP (setR p k { r with log:=al,eps:=pl }),0),mb.base):=by
 unfold appF
 rw[if_neg k1,if_neg k2,hk]
 dsimp only
 rw[hr]
 dsimp only
 rw[he,hm]
 dsimp only
 rw[if_neg (fun h=>h rfl),ha]
 dsimp only
 rw[if_neg (fun h=>h rfl),hp]
 dsimp only
 rw[if_neg (fun h=>h rfl)]
theorem ex_ra:raiseP (exP 1 0 [0,1,2] (exA1 0 0) (exA0 1) (exA0 2))=exPa:=by
 rw[raiseP_1 (j:=0) (y:=exA1 0 0) (by decide) rfl rfl]
 have:leastF [exA1 0 0,exA0 1,exA0 2] 0 (exA1 0 0) 2 [0,1,2]=0:=by
  unfold leastF
  simp only[List.foldl_cons,List.foldl_nil]
  rw[step_eq (n:=0) rfl,step_ne (n:=1) (i:=1) rfl (by decide) rfl,step_ne (n:=2) (i:=2) rfl (by decide) rfl,mp_0,mp_0]
  rfl
 show setR _ 0 { exA1 0 0 with high:=max 0 (leastF [exA1 0 0,exA0 1,exA0 2] 0 (exA1 0 0) (EndL exL1) [0,1,2]) }=_
 rw[ex_e1,this]
 rfl
theorem ex_appP:appP exP0 exB=((exPa,0),0):=by
 have hF:appF exB exP0=((exPa,0),0):=by
  rw[appF_ok (p:=exP0) (b:=exB) (k:=0) (r:=exA0 0) (en:=0) (mb:=exB) (al:=exL1) (pl:=exE) (by decide) (by decide) rfl rfl ex_e0 exB_mov ex_app ex_put]
  show((raiseP (exP 1 0 [0,1,2] (exA1 0 0) (exA0 1) (exA0 2)),(0:Int)),(0:Int))=_
  rw[ex_ra]
 rw[appP_eq,hF]
 dsimp only
 rw[chgQ_0 ex_P0,if_pos rfl]
theorem ex_fol:followR (exA0 1) (exA1 0 0)=exA1 1 0:=by
 have hc:caughtL exL0 exL1 0=(exL1,true):=by
  unfold caughtL
  dsimp only
  rw[ex_tru]
  dsimp only
  rw[ex_a0,ex_a1,if_neg (by simp)]
  show appsL exL0 [exB1]=_
  rw[appsL,ex_app,if_pos rfl]
  rfl
 unfold followR
 rw[mp_0]
 dsimp only
 have h0:min 0 (EndL (exA0 1).log)=0:=by show min 0 (EndL exL0)=0;rw[ex_e0];rfl
 have h1:caughtL (exA0 1).log (exA1 0 0).log 0=(exL1,true):=hc
 rw[h0,h1,if_pos ⟨rfl,by decide,rfl⟩]
 rfl
theorem ex_rb:raiseP (exP 1 0 [0,1,2] (exA1 0 0) (exA1 1 0) (exA0 2))=exPb:=by
 rw[raiseP_1 (j:=0) (y:=exA1 0 0) (by decide) rfl rfl]
 have:leastF [exA1 0 0,exA1 1 0,exA0 2] 0 (exA1 0 0) 2 [0,1,2]=0:=by
  unfold leastF
  simp only[List.foldl_cons,List.foldl_nil]
  rw[step_eq (n:=0) rfl,step_ne (n:=1) (i:=1) rfl (by decide) rfl,step_ne (n:=2) (i:=2) rfl (by decide) rfl,mp_1,mp_0]
  rfl
 show setR _ 0 { exA1 0 0 with high:=max 0 (leastF [exA1 0 0,exA1 1 0,exA0 2] 0 (exA1 0 0) (EndL exL1) [0,1,2]) }=_
 rw[ex_e1,this]
 rfl
theorem ex_pull:ofP exPa 1 (pullF 1)=(exPb,0):=by
 rw[ofP_eq,ofQ_1 (k:=1) (r:=exA0 1) _ rfl rfl]
 have hF:pullF 1 exPa 1 (exA0 1)=(exPb,0):=by
  unfold pullF
  rw[if_neg (by decide),if_neg (by decide),show atR exPa.reps exPa.leader=some 0 from rfl]
  dsimp only
  rw[show exPa.reps[0]?=some (exA1 0 0)from rfl]
  dsimp only
  rw[ex_fol,show EndL (exA1 1 0).log=2 from ex_e1,if_pos (by decide),show joinI exPa.isr 1=[0,1,2]from rfl]
  show(setR (raiseP (exP 1 0 [0,1,2] (exA1 0 0) (exA1 1 (min 0 2)) (exA0 2))) 1 { exA1 1 0 with high:=min (max (min 0 2) ((raiseP (exP 1 0 [0,1,2] (exA1 0 0) (exA1 1 (min 0 2)) (exA0 2))).reps[0]?.getD (exA1 0 0)).high) 2 },(0:Int))=_
  rw[show min (0:Int) 2=0 from rfl,ex_rb]
  rfl
 rw[hF,chgQ_0 ex_Pa]
theorem ex_rc:raiseP (exP 1 0 [0,1] (exA1 0 0) (exA1 1 0) (exA0 2))=exPc:=by
 rw[raiseP_1 (j:=0) (y:=exA1 0 0) (by decide) rfl rfl]
 have:leastF [exA1 0 0,exA1 1 0,exA0 2] 0 (exA1 0 0) 2 [0,1]=2:=by
  unfold leastF
  simp only[List.foldl_cons,List.foldl_nil]
  rw[step_eq (n:=0) rfl,step_ne (n:=1) (i:=1) rfl (by decide) rfl,mp_1]
  rfl
 show setR _ 0 { exA1 0 0 with high:=max 0 (leastF [exA1 0 0,exA1 1 0,exA0 2] 0 (exA1 0 0) (EndL exL1) [0,1]) }=_
 rw[ex_e1,this]
 rfl
theorem ex_slow:ofP exPb 2 (slowF 2)=(exPc,0):=by
 rw[ofP_eq,ofQ_1 (k:=2) (r:=exA0 2) _ rfl rfl]
 have hF:slowF 2 exPb 2 (exA0 2)=(exPc,0):=by
  unfold slowF
  rw[if_neg (by decide),if_neg (by decide)]
  show(raiseP (exP 1 0 [0,1] (exA1 0 0) (exA1 1 0) (exA0 2)),(0:Int))=_
  rw[ex_rc]
 rw[hF,chgQ_0 ex_Pb]
theorem ex_crash:ofP exPc 0 (crashF 0 0)=(exPd,0):=by
 rw[ofP_eq,ofQ_1 (k:=0) (r:=exA1 0 2) _ rfl rfl]
 have hF:crashF 0 0 exPc 0 (exA1 0 2)=(exPd,0):=by
  rw[crashF_eq _ _ _ _ _ (by decide) rfl]
  have h1:downR (exA1 0 2) 0=exD:=by
   unfold downR
   rw[show tornL (exA1 0 2).log 0=exL1 from ex_torn]
   rfl
  rw[h1]
  show(raiseP exPd,(0:Int))=_
  rw[show raiseP exPd=exPd by unfold raiseP;rw[if_pos (by decide)]]
 rw[hF,chgQ_0 ex_Pc]
theorem ex_app2:appP exPd exB=((noneP,180),0):=by
 have hF:appF exB exPd=((exPd,180),0):=by unfold appF;rw[if_pos (by decide)]
 rw[appP_eq,hF]
 dsimp only
 rw[chgQ_e ex_Pd (by decide),if_neg (by decide)]
theorem ex_el2:ofP exPd 2 (electF 2)=(noneP,181):=by
 rw[ofP_eq,ofQ_1 (k:=2) (r:=exA0 2) _ rfl rfl,electF,if_neg (by decide),if_pos (by decide),chgQ_e ex_Pd (by decide)]
theorem ex_el1:ofP exPd 1 (electF 1)=(exPx,0):=by
 rw[ofP_eq,ofQ_1 (k:=1) (r:=exA1 1 0) _ rfl rfl,electF,if_neg (by decide),if_neg (by decide),if_neg (by decide)]
 have h:raiseP { exPd with epoch:=exPd.epoch+1,leader:=1 }=exPx:=by
  rw[raiseP_1 (j:=1) (y:=exA1 1 0) (by decide) rfl rfl]
  have:leastF [exD,exA1 1 0,exA0 2] 1 (exA1 1 0) 2 [1]=2:=by
   unfold leastF
   simp only[List.foldl_cons,List.foldl_nil]
   rw[step_eq (n:=1) rfl]
  show setR _ 1 { exA1 1 0 with high:=max 0 (leastF [exD,exA1 1 0,exA0 2] 1 (exA1 1 0) (EndL exL1) [1]) }=_
  rw[ex_e1,this]
  rfl
 rw[h,chgQ_0 ex_Pd]
theorem ex_lead:leadP exPx=(exL1,0):=by
 rw[leadP,if_neg (fun h=>h ex_Px),if_neg (by decide)]
 rfl
theorem ex_back:ofP exPx 0 backF=(exPy,0):=by
 rw[ofP_eq,ofQ_1 (k:=0) (r:=exD) _ rfl rfl,backF,if_neg (by decide)]
 have h:backR exD=exA1 0 2:=by
  unfold backR
  rw[show(recL exD.log)=(exL1,0)from recL_ok ex_c1]
  dsimp only
  rw[ex_e1,show cutM exD.eps 2=exE from ex_cut]
  rfl
 rw[h]
 show chgQ exPx (exPy,0)=_
 rw[chgQ_0 ex_Px]
theorem ex_back2:ofP exPy 0 backF=(noneP,150):=by
 rw[ofP_eq,ofQ_1 (k:=0) (r:=exA1 0 2) _ rfl rfl,backF,if_pos (show(exA1 0 2).up=true from rfl),chgQ_e ex_Py (by decide)]
theorem ex_high{ep ld:Int}{is:List Int}{a b c:Rp}{k:Nat}{r:Rp}(h:chkPt (exP ep ld is a b c)=0)(h0:0≤ld)(hk:atR [a,b,c] ld=some k)(hr:([a,b,c]:List Rp)[k]?=some r):highP (exP ep ld is a b c)=r.high:=by
 rw[highP,if_neg (fun hh=>hh h),if_pos (show 0≤(exP ep ld is a b c).leader from h0)]
 show(match atR [a,b,c] ld with | some k=>(([a,b,c]:List Rp)[k]?.map Rp.high).getD 0 | none=>0)=_
 rw[hk]
 dsimp only
 rw[hr]
 rfl
theorem ex_ha:highP exPa=0:=ex_high (k:=0) (r:=exA1 0 0) ex_Pa (by decide) rfl rfl
theorem ex_hb:highP exPb=0:=ex_high (k:=0) (r:=exA1 0 0) ex_Pb (by decide) rfl rfl
theorem ex_hc:highP exPc=2:=ex_high (k:=0) (r:=exA1 0 2) ex_Pc (by decide) rfl rfl
theorem ex_hx:highP exPx=2:=ex_high (k:=1) (r:=exA1 1 2) ex_Px (by decide) rfl rfl
theorem F43:Fun Tryz.prog 43 5 v43 c43 o43:=Fun.mkA Tryz.func43 Tryz.ntmps43
theorem F11:Fun Tryz.prog 11 191 v11 c11 o11:=Fun.mkA Tryz.func11 Tryz.ntmps11
theorem plain_ok(G:Nat→Option Obj):FnD Tryz.prog 43 #[] G (fun G' r=>∃ B d,r=.agg #[.int .i64 0,.int .i64 1,.int .i64 0,.int .i64 0,.int .i64 (-1),.int .i64 0,.int .i64 0,.bool false,.int .i64 0,.slice B 2 d]∧BE G' exB [.int .i64 0,.int .i64 1,.int .i64 0,.int .i64 0,.int .i64 (-1),.int .i64 0,.int .i64 0,.bool false,.int .i64 0,.slice B 2 d]):=by
 refine F43.fnD (by simp) (go_of ?_)
 unfold c43
 intros;refine gr 0 0 ?_;refine sJ c43r0.eq_1 ?_
 intros;refine gr 1 5 ?_;refine sJ c43r1.eq_1 ?_
 intro b hb
 refine sI ?_
 intros;try refine go_seq ?_
 have z0:(ByteArray.mk #[]).size≤maxLen:=by decide
 have z1:(ByteArray.mk #[118]).size≤maxLen:=by decide
 have z2:(ByteArray.mk #[119]).size≤maxLen:=by decide
 have hra:Cells RR 5 exB.recs [.int .i64 0,.string ⟨#[]⟩,.string ⟨#[118]⟩,.bool false,.int .i64 0,.int .i64 1,.string ⟨#[]⟩,.string ⟨#[119]⟩,.bool false,.int .i64 0] :=
  .cons (cs:=[_,_,_,_,_]) ⟨rfl,⟨i64_0,i64_0⟩,z0,z1⟩ rfl (.one ⟨rfl,⟨(by decide:I64 1),i64_0⟩,z0,z2⟩ rfl)
 refine go_gx (gx_slv_at [] _ (by decide) hra) ?_
 rintro h' ⟨G2,rfl,hg2,A2,c2,hA2,hc2,hm2,hs2⟩
 cases hA2
 intros;refine rV ?_;simp only[push_cast,Nat.reduceBEq]
 exact⟨some ⟨b,0,none⟩,2,rfl,some ⟨b,0,none⟩,2,rfl,⟨hc2,hm2,hs2⟩,i64_0,(by decide:I64 1),i64_0,i64_0,(by decide:I64 (-1)),i64_0,i64_0,i64_0⟩
theorem ex_smA(n:Int):smR (exA0 n):=⟨sm_of ex_c0,by show(1:Nat)≤1000;decide,by show(0:Nat)≤1000;decide⟩
theorem ex_smB(n h:Int):smR (exA1 n h):=⟨sm_of ex_c1,by show(1:Nat)≤1000;decide,by show(1:Nat)≤1000;decide⟩
theorem ex_smD:smR exD:=⟨sm_of ex_c1,by show(1:Nat)≤1000;decide,by show(1:Nat)≤1000;decide⟩
theorem ex_smP{ep ld:Int}{is:List Int}{a b c:Rp}(h1:smR a)(h2:smR b)(h3:smR c)(hi:is.length≤1000):smP (exP ep ld is a b c):=by
 refine⟨fun r hr=>?_,by show[a,b,c].length≤1000;simp,hi⟩
 have hr:r∈[a,b,c]:=hr
 simp at hr
 rcases hr with rfl | rfl | rfl <;> assumption
theorem fnd_imp{P:Program}{f:FuncId}{args:Array Value}{G:Nat→Option Obj}{R R':(Nat→Option Obj)→Value→Prop}(h:FnD P f args G R)(hr:∀ G' r,R G' r→R' G' r):FnD P f args G R':=fun L D=>(h L D).mono fun r h' ⟨G',e,hg,hR⟩=>⟨G',e,hg,hr _ _ hR⟩
theorem ptv{ep ld e:Int}{is:List Int}{a b c:Rp}{G:Nat→Option Obj}{r:Value}(h:PtR (exP ep ld is a b c,e) G r):∃ A c' B d,r=.tuple #[.agg #[.int .i64 ep,.int .i64 ld,.int .i64 1,.slice A is.length c',.slice B 3 d],.int .i64 e]∧PE G (exP ep ld is a b c) [.int .i64 ep,.int .i64 ld,.int .i64 1,.slice A is.length c',.slice B 3 d]:=by
 obtain⟨cs,h1,h2⟩:=h
 have h3:=h2
 obtain⟨A,c',B,d,rfl,-⟩:=h2
 exact⟨A,c',B,d,h1,h3⟩
theorem ptv0{e:Int}{G:Nat→Option Obj}{r:Value}(h:PtR (noneP,e) G r):∃ A c B d,r=.tuple #[.agg #[.int .i64 0,.int .i64 0,.int .i64 0,.slice A 0 c,.slice B 0 d],.int .i64 e]:=by
 obtain⟨cs,h1,h2⟩:=h
 obtain⟨A,c',B,d,rfl,-⟩:=h2
 exact⟨A,c',B,d,h1⟩
theorem lv_new(v:Value)(G:Nat→Option Obj)(hl:SlV G IE 1 v [0,1,2]):FnD Tryz.prog 13 #[v,.int .i64 4096,.int .i64 1] G (fun G' r=>∃ A c B d,r=.tuple #[.agg #[.int .i64 1,.int .i64 0,.int .i64 1,.slice A 3 c,.slice B 3 d],.int .i64 0]∧PE G' exP0 [.int .i64 1,.int .i64 0,.int .i64 1,.slice A 3 c,.slice B 3 d]):=by
 have:=PNew_ok [0,1,2] 4096 1 v G hl (by decide) (by decide)
 rw[ex_newP]at this
 exact fnd_imp this fun _ _ h=>ptv h
theorem lv_app{A:Option Addr}{c:Nat}{B:Option Addr}{d:Nat}{cb:List Value}(G:Nat→Option Obj)(hp:PE G exP0 [.int .i64 1,.int .i64 0,.int .i64 1,.slice A 3 c,.slice B 3 d])(hb:BE G exB cb):FnD Tryz.prog 25 #[.agg #[.int .i64 1,.int .i64 0,.int .i64 1,.slice A 3 c,.slice B 3 d],.agg cb.toArray] G (fun G' r=>∃ A c B d,r=.tuple #[.agg #[.int .i64 1,.int .i64 0,.int .i64 1,.slice A 3 c,.slice B 3 d],.int .i64 0,.int .i64 0]∧PE G' exPa [.int .i64 1,.int .i64 0,.int .i64 1,.slice A 3 c,.slice B 3 d]):=by
 have:=PAppend_ok exP0 exB _ _ G hp (ex_smP (ex_smA _) (ex_smA _) (ex_smA _) (by decide)) hb
 rw[ex_appP]at this
 refine fnd_imp this fun G' r ⟨cs,h1,h2⟩=>?_
 have h3:=h2
 obtain⟨A,c',B,d,rfl,-⟩:=h2
 exact⟨A,c',B,d,h1,h3⟩
theorem lv_pull{A:Option Addr}{c:Nat}{B:Option Addr}{d:Nat}(G:Nat→Option Obj)(hp:PE G exPa [.int .i64 1,.int .i64 0,.int .i64 1,.slice A 3 c,.slice B 3 d]):FnD Tryz.prog 33 #[.agg #[.int .i64 1,.int .i64 0,.int .i64 1,.slice A 3 c,.slice B 3 d],.int .i64 1] G (fun G' r=>∃ A c B d,r=.tuple #[.agg #[.int .i64 1,.int .i64 0,.int .i64 1,.slice A 3 c,.slice B 3 d],.int .i64 0]∧PE G' exPb [.int .i64 1,.int .i64 0,.int .i64 1,.slice A 3 c,.slice B 3 d]):=by
 have:=Pull_ok exPa _ 1 G hp (ex_smP (ex_smB _ _) (ex_smA _) (ex_smA _) (by decide)) (by decide) (.inr (.inl (by decide)))
 rw[ex_pull]at this
 exact fnd_imp this fun _ _ h=>ptv h
theorem lv_slow{A:Option Addr}{c:Nat}{B:Option Addr}{d:Nat}(G:Nat→Option Obj)(hp:PE G exPb [.int .i64 1,.int .i64 0,.int .i64 1,.slice A 3 c,.slice B 3 d]):FnD Tryz.prog 44 #[.agg #[.int .i64 1,.int .i64 0,.int .i64 1,.slice A 3 c,.slice B 3 d],.int .i64 2] G (fun G' r=>∃ A c B d,r=.tuple #[.agg #[.int .i64 1,.int .i64 0,.int .i64 1,.slice A 2 c,.slice B 3 d],.int .i64 0]∧PE G' exPc [.int .i64 1,.int .i64 0,.int .i64 1,.slice A 2 c,.slice B 3 d]):=by
 have:=Slow_ok exPb _ 2 G hp (ex_smP (ex_smB _ _) (ex_smB _ _) (ex_smA _) (by decide)) (by decide)
 rw[ex_slow]at this
 exact fnd_imp this fun _ _ h=>ptv h
theorem lv_crash{A:Option Addr}{c:Nat}{B:Option Addr}{d:Nat}(G:Nat→Option Obj)(hp:PE G exPc [.int .i64 1,.int .i64 0,.int .i64 1,.slice A 2 c,.slice B 3 d]):FnD Tryz.prog 35 #[.agg #[.int .i64 1,.int .i64 0,.int .i64 1,.slice A 2 c,.slice B 3 d],.int .i64 0,.int .i64 0] G (fun G' r=>∃ A c B d,r=.tuple #[.agg #[.int .i64 1,.int .i64 (-1),.int .i64 1,.slice A 1 c,.slice B 3 d],.int .i64 0]∧PE G' exPd [.int .i64 1,.int .i64 (-1),.int .i64 1,.slice A 1 c,.slice B 3 d]):=by
 have:=Crash_ok exPc _ 0 0 G hp (ex_smP (ex_smB _ _) (ex_smB _ _) (ex_smA _) (by decide)) (by decide) (by decide)
 rw[ex_crash]at this
 exact fnd_imp this fun _ _ h=>ptv h
theorem lv_app2{A:Option Addr}{c:Nat}{B:Option Addr}{d:Nat}{cb:List Value}(G:Nat→Option Obj)(hp:PE G exPd [.int .i64 1,.int .i64 (-1),.int .i64 1,.slice A 1 c,.slice B 3 d])(hb:BE G exB cb):FnD Tryz.prog 25 #[.agg #[.int .i64 1,.int .i64 (-1),.int .i64 1,.slice A 1 c,.slice B 3 d],.agg cb.toArray] G (fun G' r=>∃ A c B d,r=.tuple #[.agg #[.int .i64 0,.int .i64 0,.int .i64 0,.slice A 0 c,.slice B 0 d],.int .i64 0,.int .i64 180]):=by
 have:=PAppend_ok exPd exB _ _ G hp (ex_smP ex_smD (ex_smB _ _) (ex_smA _) (by decide)) hb
 rw[ex_app2]at this
 refine fnd_imp this fun G' r ⟨cs,h1,h2⟩=>?_
 obtain⟨A,c',B,d,rfl,-⟩:=h2
 exact⟨A,c',B,d,h1⟩
theorem lv_el2{A:Option Addr}{c:Nat}{B:Option Addr}{d:Nat}(G:Nat→Option Obj)(hp:PE G exPd [.int .i64 1,.int .i64 (-1),.int .i64 1,.slice A 1 c,.slice B 3 d]):FnD Tryz.prog 37 #[.agg #[.int .i64 1,.int .i64 (-1),.int .i64 1,.slice A 1 c,.slice B 3 d],.int .i64 2] G (fun G' r=>∃ A c B d,r=.tuple #[.agg #[.int .i64 0,.int .i64 0,.int .i64 0,.slice A 0 c,.slice B 0 d],.int .i64 181]):=by
 have:=Elect_ok exPd _ 2 G hp (ex_smP ex_smD (ex_smB _ _) (ex_smA _) (by decide)) (by decide)
 rw[ex_el2]at this
 exact fnd_imp this fun _ _ h=>ptv0 h
theorem lv_el1{A:Option Addr}{c:Nat}{B:Option Addr}{d:Nat}(G:Nat→Option Obj)(hp:PE G exPd [.int .i64 1,.int .i64 (-1),.int .i64 1,.slice A 1 c,.slice B 3 d]):FnD Tryz.prog 37 #[.agg #[.int .i64 1,.int .i64 (-1),.int .i64 1,.slice A 1 c,.slice B 3 d],.int .i64 1] G (fun G' r=>∃ A c B d,r=.tuple #[.agg #[.int .i64 2,.int .i64 1,.int .i64 1,.slice A 1 c,.slice B 3 d],.int .i64 0]∧PE G' exPx [.int .i64 2,.int .i64 1,.int .i64 1,.slice A 1 c,.slice B 3 d]):=by
 have:=Elect_ok exPd _ 1 G hp (ex_smP ex_smD (ex_smB _ _) (ex_smA _) (by decide)) (by decide)
 rw[ex_el1]at this
 exact fnd_imp this fun _ _ h=>ptv h
theorem lv_lead{A:Option Addr}{c:Nat}{B:Option Addr}{d:Nat}(G:Nat→Option Obj)(hp:PE G exPx [.int .i64 2,.int .i64 1,.int .i64 1,.slice A 1 c,.slice B 3 d]):FnD Tryz.prog 15 #[.agg #[.int .i64 2,.int .i64 1,.int .i64 1,.slice A 1 c,.slice B 3 d]] G (fun G' r=>∃ A c,r=.tuple #[.agg #[.int .i64 4096,.int .i64 0,.slice A 1 c],.int .i64 0]∧LE G' exL1 [.int .i64 4096,.int .i64 0,.slice A 1 c]):=by
 have:=Lead_ok exPx _ G hp (ex_smP ex_smD (ex_smB _ _) (ex_smA _) (by decide))
 rw[ex_lead]at this
 refine fnd_imp this fun G' r ⟨cs,h1,h2⟩=>?_
 have h3:=h2
 obtain⟨A,c',rfl,-⟩:=h2
 exact⟨A,c',h1,h3⟩
theorem lv_back{A:Option Addr}{c:Nat}{B:Option Addr}{d:Nat}(G:Nat→Option Obj)(hp:PE G exPx [.int .i64 2,.int .i64 1,.int .i64 1,.slice A 1 c,.slice B 3 d]):FnD Tryz.prog 36 #[.agg #[.int .i64 2,.int .i64 1,.int .i64 1,.slice A 1 c,.slice B 3 d],.int .i64 0] G (fun G' r=>∃ A c B d,r=.tuple #[.agg #[.int .i64 2,.int .i64 1,.int .i64 1,.slice A 1 c,.slice B 3 d],.int .i64 0]∧PE G' exPy [.int .i64 2,.int .i64 1,.int .i64 1,.slice A 1 c,.slice B 3 d]):=by
 have:=Back_ok exPx _ 0 G hp (ex_smP ex_smD (ex_smB _ _) (ex_smA _) (by decide)) (by decide)
 rw[ex_back]at this
 exact fnd_imp this fun _ _ h=>ptv h
theorem lv_back2{A:Option Addr}{c:Nat}{B:Option Addr}{d:Nat}(G:Nat→Option Obj)(hp:PE G exPy [.int .i64 2,.int .i64 1,.int .i64 1,.slice A 1 c,.slice B 3 d]):FnD Tryz.prog 36 #[.agg #[.int .i64 2,.int .i64 1,.int .i64 1,.slice A 1 c,.slice B 3 d],.int .i64 0] G (fun G' r=>∃ A c B d,r=.tuple #[.agg #[.int .i64 0,.int .i64 0,.int .i64 0,.slice A 0 c,.slice B 0 d],.int .i64 150]):=by
 have:=Back_ok exPy _ 0 G hp (ex_smP (ex_smB _ _) (ex_smB _ _) (ex_smA _) (by decide)) (by decide)
 rw[ex_back2]at this
 exact fnd_imp this fun _ _ h=>ptv0 h
theorem dn0:decide ((0:Int)≠0)=false:=by decide
theorem dn1:decide (((1:Nat):Int)≠1)=false:=by decide
theorem lv_end(e:Env)(G:Nat→Option Obj)(b3:Nat)(A:Option Addr)(c:Nat)(B:Option Addr)(d:Nat)(A4:Option Addr)(c4:Nat)(B4:Option Addr)(d4:Nat)(A5:Option Addr)(c5:Nat)(B5:Option Addr)(d5:Nat)(A6:Option Addr)(c6:Nat)(B6:Option Addr)(d6:Nat)
  (A9:Option Addr) (c9:Nat) (B9:Option Addr) (d9:Nat) (Aa:Option Addr) (ca:Nat) (Ab:Option Addr) (cb:Nat) (Bb:Option Addr) (db:Nat)
  (hpa:PE G exPa [.int .i64 1,.int .i64 0,.int .i64 1,.slice A 3 c,.slice B 3 d]) (hpb:PE G exPb [.int .i64 1,.int .i64 0,.int .i64 1,.slice A4 3 c4,.slice B4 3 d4]) (hpc:PE G exPc [.int .i64 1,.int .i64 0,.int .i64 1,.slice A5 2 c5,.slice B5 3 d5]) (hpx:PE G exPx [.int .i64 2,.int .i64 1,.int .i64 1,.slice A9 1 c9,.slice B9 3 d9]) (hll:LE G exL1 [.int .i64 4096,.int .i64 0,.slice Aa 1 ca]) (hpy:PE G exPy [.int .i64 2,.int .i64 1,.int .i64 1,.slice Ab 1 cb,.slice Bb 3 db])
  (e2:e 2=.int .i64 0) (e3:e 3=.pointer (some ⟨b3,0,none⟩)) (e4:e 4=.int .i64 0) (e5:e 5=.int .i64 0) (e7:e 7=.int .i64 0) (e9:e 9=.int .i64 0) (e11:e 11=.int .i64 0) (e14:e 14=.int .i64 180) (e16:e 16=.int .i64 181) (e18:e 18=.int .i64 0) (e20:e 20=.int .i64 0) (e22:e 22=.int .i64 0) (e24:e 24=.int .i64 150) :
  go none Tryz.prog 191 v11.1 v11.2 (retQ o11 fun v x=>v=.bool true) [.s (.reg false c11r12),.s (.cond (.t 119) (.seq (.reg false c11r13) .ret) .skip),.s (.seq (.reg false c11r14) .ret)] e
   ⟨G,[.reg 21 [.int .i64 2,.int .i64 1,.int .i64 1,.slice Ab 1 cb,.slice Bb 3 db],.reg 19 [.int .i64 4096,.int .i64 0,.slice Aa 1 ca],.reg 17 [.int .i64 2,.int .i64 1,.int .i64 1,.slice A9 1 c9,.slice B9 3 d9],.reg 10 [.int .i64 1,.int .i64 (-1),.int .i64 1,.slice A6 1 c6,.slice B6 3 d6],.reg 8 [.int .i64 1,.int .i64 0,.int .i64 1,.slice A5 2 c5,.slice B5 3 d5],.reg 6 [.int .i64 1,.int .i64 0,.int .i64 1,.slice A4 3 c4,.slice B4 3 d4],.blk b3 [.int .i64 1,.int .i64 0,.int .i64 1,.slice A 3 c,.slice B 3 d]],[]⟩:=by
 have hna:∀ t:Bool,t=decide ((0:Int)≠0)→t=false:=fun t h=>by rw[h];rfl
 refine go_keep [2,3,4,5,7,9,11,14,16,18,20,22,24] ?_
 (try simp -implicitDefEqProofs only[kR_e,kQ_e,push_cast,Nat.reduceBEq,Nat.reduceAdd,Nat.reduceSub,Nat.reduceMul,Nat.reduceLT,Nat.reduceLeDiff,Nat.reduceEqDiff,reduceIte,Bool.not_true,Bool.not_false,true_and,and_true,Option.map_some,Option.bind_some,Int.toNat_natCast,e2,e3,e4,e5,e7,e9,e11,e14,e16,e18,e20,e22,e24])
 intros
 refine gr 84 119 ?_
 rw[c11r12.eq_1]
 refine sI ?_
 rw[dn0]
 refine sI ?_
 rw[dn0]
 refine sI ?_
 rw[dn0]
 refine sI ?_
 rw[dn0]
 refine sI ?_
 rw[dn0]
 refine sI ?_
 rw[dn0]
 refine sI ?_
 rw[dn0]
 refine sI ?_
 rw[dn0]
 refine sI ?_
 have dn1:decide ((0:Int)+1≠1)=false:=by decide
 have de:∀ n:Int,decide (n=n)=true:=fun n=>decide_eq_true rfl
 have ha:=High_ok exPa _ G hpa (ex_smP (ex_smB _ _) (ex_smA _) (ex_smA _) (by decide))
 rw[ex_ha]at ha
 have hb:=High_ok exPb _ G hpb (ex_smP (ex_smB _ _) (ex_smB _ _) (ex_smA _) (by decide))
 rw[ex_hb]at hb
 have hc:=High_ok exPc _ G hpc (ex_smP (ex_smB _ _) (ex_smB _ _) (ex_smA _) (by decide))
 rw[ex_hc]at hc
 have hx:=High_ok exPx _ G hpx (ex_smP ex_smD (ex_smB _ _) (ex_smA _) (by decide))
 rw[ex_hx]at hx
 have hend:=CEnd_ok exL1 _ G hll (sm_of ex_c1) (by show(1:Nat)≤_;decide)
 rw[ex_e1]at hend
 have hcy:=PCheck_ok exPy _ G hpy (ex_smP (ex_smB _ _) (ex_smB _ _) (ex_smA _) (by decide))
 rw[ex_Py]at hcy
 have hcn:=PCheck_ok noneP [.int .i64 0,.int .i64 0,.int .i64 0,.slice none 0 0,.slice none 0 0] G ⟨none,0,none,0,rfl,slN,slN,i64_0,i64_0,i64_0⟩ ⟨fun r h=>(by cases h),Nat.zero_le _,Nat.zero_le _⟩
 rw[ex_none]at hcn
 obtain⟨_,_,_,_,hex,hv1,-⟩:=hpx
 unfold cellT at hex
 cases hex
 obtain⟨A1,c1,he1,-,-,hA1⟩:=hv1
 cases he1
 intros
 rw[dn1]
 intros;refine gc ?_;refine sI ?_
 intros;refine gN ?_
 intros
 refine gr 120 190 ?_
 rw[c11r14.eq_1]
 refine sI ?_
 refine⟨_,ldN_blkA (us:=[.int .i64 1,.int .i64 0,.int .i64 1,.slice A 3 c,.slice B 3 d]) (.tail _ (.tail _ (.tail _ (.tail _ (.tail _ (.tail _ (.head _))))))) rfl (fun j u h=>by rw[Nat.zero_add];exact h),?_⟩
 refine sI ?_
 refine(ha _ _).mono ?_;rintro _ _ ⟨rfl,rfl⟩;refine sI ?_
 refine(hb _ _).mono ?_;rintro _ _ ⟨rfl,rfl⟩;refine sI ?_
 refine(hc _ _).mono ?_;rintro _ _ ⟨rfl,rfl⟩;refine sI ?_
 refine⟨by decide,(hA1.x_l1 (k:=0) (x:=1) (j:=0) rfl rfl rfl ?_).2⟩
 rintro a1 ha1 u1 ⟨hu,-⟩
 cases hu
 refine sI ?_
 refine(hx _ _).mono ?_;rintro _ _ ⟨rfl,rfl⟩;refine sI ?_
 refine(hend _ _).mono ?_;rintro _ _ ⟨rfl,rfl⟩;refine sI ?_
 refine(hcy _ _).mono ?_;rintro _ _ ⟨rfl,rfl⟩;refine sI ?_
 refine(hcn _ _).mono ?_;rintro _ _ ⟨rfl,rfl⟩;refine sI ?_
 intros
 intros;refine rV ?_;simp only[push_cast,Nat.reduceBEq]
theorem LV_ok(G:Nat→Option Obj):FnS Tryz.prog 11 #[] G (.bool true):=by
 refine F11.fnS (by simp) (go_of ?_)
 unfold c11
 intros;refine gr 0 0 ?_;refine sJ c11r0.eq_1 ?_
 intros;try refine go_seq ?_
 intros;refine gr 25 30 ?_;refine sJ c11r1.eq_1 ?_
 intro b hb
 refine sI ?_
 have h012:Cells IE 1 [0,1,2] [.int .i64 0,.int .i64 1,.int .i64 2]:=.cons (cs:=[_]) ⟨rfl,i64_0⟩ rfl (.cons (cs:=[_]) ⟨rfl,(by decide:I64 1)⟩ rfl (.one ⟨rfl,(by decide:I64 2)⟩ rfl))
 refine calls_gx0 F13.enters (gx_slv_at [] _ (by decide) h012) ?_
 rintro h' ⟨G1,rfl,hg1,hv1⟩
 refine(lv_new _ G1 hv1 _ _).mono ?_
 rintro r h' ⟨G2,rfl,hg2,A,c,B,d,rfl,hp0⟩
 refine sI ?_
 intros;try refine go_seq ?_
 refine go_cut (fun e h=>∃ (G3:Nat→Option Obj) (b3:Nat) (A:Option Addr) (c:Nat) (B:Option Addr) (d:Nat) (Lh:List Kx.Item),PE G3 exPa [.int .i64 1,.int .i64 0,.int .i64 1,.slice A 3 c,.slice B 3 d]∧e 2=.int .i64 0∧e 3=.pointer (some ⟨b3,0,none⟩)∧e 4=.int .i64 0∧e 5=.int .i64 0∧h=⟨G3,Lh,[]⟩∧([.blk b3 [.int .i64 1,.int .i64 0,.int .i64 1,.slice A 3 c,.slice B 3 d]]:List Kx.Item).Sublist Lh) ?_ ?_
 ·(intros;try refine go_st ?_);refine go_z _ (List.Sublist.refl _) (by decide) ?_;refine sJ c11r2.eq_1 ?_
  refine⟨?_,?_⟩
  ·refine(plain_ok G2 _ _).mono ?_
   rintro r h' ⟨G3,rfl,hg3,Bb,db,rfl,hbe⟩
   refine⟨grow_G hg3,?_⟩
   refine sI ?_
   refine⟨?_,?_⟩
   ·refine(lv_app G3 (hp0.le hg3) hbe _ _).mono ?_
    rintro r h' ⟨G4,rfl,hg4,A',c',B',d',rfl,hpa⟩
    refine sI ?_
    refine⟨grow_G (hg3.trans hg4),?_⟩
    refine sI ?_
    intro b3 hb3
    refine⟨grow_L (hg3.trans hg4) (.cons _ (List.Sublist.refl _)),?_⟩
    refine sI ?_
    refine stX_blk [] _ rfl (by simp) ⟨rfl,rfl⟩ ?_
    refine sI ?_
    refine⟨grow_L (hg3.trans hg4) (.cons _ (List.Sublist.refl _)),?_⟩
    refine sI ?_
    exact go_l ⟨G4,b3,A',c',B',d',_,hpa,eE,eE,eE,eE,rfl,.cons_cons _ (List.nil_sublist _)⟩
   ·intro b3 hb3
    refine⟨grow_L hg3 (.cons _ (List.Sublist.refl _)),?_⟩
    refine sI ?_
    refine(lv_app G3 (hp0.le hg3) hbe _ _).mono ?_
    rintro r h' ⟨G4,rfl,hg4,A',c',B',d',rfl,hpa⟩
    refine sI ?_
    refine⟨grow_L (hg3.trans hg4) (.cons _ (List.Sublist.refl _)),?_⟩
    refine sI ?_
    refine stX_blk [] _ rfl (by simp) ⟨rfl,rfl⟩ ?_
    refine sI ?_
    refine⟨grow_L (hg3.trans hg4) (.cons _ (List.Sublist.refl _)),?_⟩
    refine sI ?_
    exact go_l ⟨G4,b3,A',c',B',d',_,hpa,eE,eE,eE,eE,rfl,.cons_cons _ (List.nil_sublist _)⟩
  ·intro b3 hb3
   refine⟨grow_L (fun _ _ h=>h) (.cons _ (List.Sublist.refl _)),?_⟩
   refine sI ?_
   refine(plain_ok G2 _ _).mono ?_
   rintro r h' ⟨G3,rfl,hg3,Bb,db,rfl,hbe⟩
   refine⟨grow_L hg3 (.cons _ (List.Sublist.refl _)),?_⟩
   refine sI ?_
   refine(lv_app G3 (hp0.le hg3) hbe _ _).mono ?_
   rintro r h' ⟨G4,rfl,hg4,A',c',B',d',rfl,hpa⟩
   refine sI ?_
   refine⟨grow_L (hg3.trans hg4) (.cons _ (List.Sublist.refl _)),?_⟩
   refine sI ?_
   refine stX_blk [] _ rfl (by simp) ⟨rfl,rfl⟩ ?_
   refine sI ?_
   refine⟨grow_L (hg3.trans hg4) (.cons _ (List.Sublist.refl _)),?_⟩
   refine sI ?_
   exact go_l ⟨G4,b3,A',c',B',d',_,hpa,eE,eE,eE,eE,rfl,.cons_cons _ (List.nil_sublist _)⟩
 rintro e h ⟨G3,b3,A,c,B,d,Lh,hpa,e2,e3,e4,e5,rfl,hsub⟩
 refine go_keep [2,3,4,5] ?_
 refine sJ4 @e2 @e3 @e4 @e5 ?_
 intros
 refine go_ghost (ghost_sub hsub) ?_
 clear hsub hp0
 intros;try refine go_seq ?_
 intros;refine gr 37 42 ?_;refine sJ c11r3.eq_1 ?_
 refine⟨_,ldN_blkA (us:=[.int .i64 1,.int .i64 0,.int .i64 1,.slice A 3 c,.slice B 3 d]) (.head _) rfl (fun j u h=>by rw[Nat.zero_add];exact h),?_⟩
 refine sI ?_
 refine(lv_pull G3 hpa _ _).mono ?_
 rintro r h' ⟨G4,rfl,hg4,A4,c4,B4,d4,rfl,hpb⟩
 refine sI ?_
 intros;try refine go_seq ?_
 intros;refine gr 42 47 ?_;refine sJ c11r4.eq_1 ?_
 refine(lv_slow G4 hpb _ _).mono ?_
 rintro r h' ⟨G5,rfl,hg5,A5,c5,B5,d5,rfl,hpc⟩
 refine sI ?_
 intros;try refine go_seq ?_
 intros;refine gr 47 52 ?_;refine sJ c11r5.eq_1 ?_
 refine(lv_crash G5 hpc _ _).mono ?_
 rintro r h' ⟨G6,rfl,hg6,A6,c6,B6,d6,rfl,hpd⟩
 refine sI ?_
 intros;try refine go_seq ?_
 refine go_cut (fun e h=>∃ (G7:Nat→Option Obj) (Lh:List Kx.Item),Gle G6 G7∧e 2=.int .i64 0∧e 3=.pointer (some ⟨b3,0,none⟩)∧e 4=.int .i64 0∧e 5=.int .i64 0∧e 7=.int .i64 0∧e 9=.int .i64 0∧e 11=.int .i64 0∧e 14=.int .i64 180∧h=⟨G7,Lh,[]⟩∧([.reg 10 [.int .i64 1,.int .i64 (-1),.int .i64 1,.slice A6 1 c6,.slice B6 3 d6],.reg 8 [.int .i64 1,.int .i64 0,.int .i64 1,.slice A5 2 c5,.slice B5 3 d5],.reg 6 [.int .i64 1,.int .i64 0,.int .i64 1,.slice A4 3 c4,.slice B4 3 d4],.blk b3 [.int .i64 1,.int .i64 0,.int .i64 1,.slice A 3 c,.slice B 3 d]]:List Kx.Item).Sublist Lh) ?_ ?_
 ·(intros;try refine go_st ?_);refine go_z _ (List.Sublist.refl _) (by decide) ?_;refine sJ c11r6.eq_1 ?_
  refine⟨?_,?_⟩
  ·refine(plain_ok G6 _ _).mono ?_
   rintro r h' ⟨G7,rfl,hg7,Bb,db,rfl,hbe⟩
   refine⟨grow_G hg7,?_⟩
   refine sI ?_
   refine⟨?_,?_⟩
   ·refine(lv_app2 G7 (hpd.le hg7) hbe _ _).mono ?_
    rintro r h' ⟨G8,rfl,hg8,A',c',B',d',rfl⟩
    refine sI ?_
    refine⟨grow_G (hg7.trans hg8),?_⟩
    refine sI ?_
    intro b12 hb12
    refine⟨grow_L (hg7.trans hg8) (.cons _ (List.Sublist.refl _)),?_⟩
    refine sI ?_
    refine stX_blk [] _ rfl (by simp) ⟨rfl,rfl⟩ ?_
    refine sI ?_
    refine⟨grow_L (hg7.trans hg8) (.cons _ (List.Sublist.refl _)),?_⟩
    refine sI ?_
    exact go_l ⟨G8,_,hg7.trans hg8,eE,eE,eE,eE,eE,eE,eE,eE,rfl,.cons _ (List.Sublist.refl _)⟩
   ·intro b12 hb12
    refine⟨grow_L hg7 (.cons _ (List.Sublist.refl _)),?_⟩
    refine sI ?_
    refine(lv_app2 G7 (hpd.le hg7) hbe _ _).mono ?_
    rintro r h' ⟨G8,rfl,hg8,A',c',B',d',rfl⟩
    refine sI ?_
    refine⟨grow_L (hg7.trans hg8) (.cons _ (List.Sublist.refl _)),?_⟩
    refine sI ?_
    refine stX_blk [] _ rfl (by simp) ⟨rfl,rfl⟩ ?_
    refine sI ?_
    refine⟨grow_L (hg7.trans hg8) (.cons _ (List.Sublist.refl _)),?_⟩
    refine sI ?_
    exact go_l ⟨G8,_,hg7.trans hg8,eE,eE,eE,eE,eE,eE,eE,eE,rfl,.cons _ (List.Sublist.refl _)⟩
  ·intro b12 hb12
   refine⟨grow_L (fun _ _ h=>h) (.cons _ (List.Sublist.refl _)),?_⟩
   refine sI ?_
   refine(plain_ok G6 _ _).mono ?_
   rintro r h' ⟨G7,rfl,hg7,Bb,db,rfl,hbe⟩
   refine⟨grow_L hg7 (.cons _ (List.Sublist.refl _)),?_⟩
   refine sI ?_
   refine(lv_app2 G7 (hpd.le hg7) hbe _ _).mono ?_
   rintro r h' ⟨G8,rfl,hg8,A',c',B',d',rfl⟩
   refine sI ?_
   refine⟨grow_L (hg7.trans hg8) (.cons _ (List.Sublist.refl _)),?_⟩
   refine sI ?_
   refine stX_blk [] _ rfl (by simp) ⟨rfl,rfl⟩ ?_
   refine sI ?_
   refine⟨grow_L (hg7.trans hg8) (.cons _ (List.Sublist.refl _)),?_⟩
   refine sI ?_
   exact go_l ⟨G8,_,hg7.trans hg8,eE,eE,eE,eE,eE,eE,eE,eE,rfl,.cons _ (List.Sublist.refl _)⟩
 rintro e h ⟨G7,Lh,hg7,e2,e3,e4,e5,e7,e9,e11,e14,rfl,hsub⟩
 refine go_keep [2,3,4,5,7,9,11,14] ?_
 (try simp -implicitDefEqProofs only[kR_e,kQ_e,push_cast,Nat.reduceBEq,Nat.reduceAdd,Nat.reduceSub,Nat.reduceMul,Nat.reduceLT,Nat.reduceLeDiff,Nat.reduceEqDiff,reduceIte,Bool.not_true,Bool.not_false,true_and,and_true,Option.map_some,Option.bind_some,Int.toNat_natCast,e2,e3,e4,e5,e7,e9,e11,e14])
 intros
 refine go_ghost (ghost_sub hsub) ?_
 clear hsub
 have hpd:=hpd.le hg7
 intros;try refine go_seq ?_
 intros;refine gr 59 64 ?_;refine sJ c11r7.eq_1 ?_
 refine(lv_el2 G7 hpd _ _).mono ?_
 rintro r h' ⟨G8,rfl,hg8,A8,c8,B8,d8,rfl⟩
 refine sI ?_
 intros;try refine go_seq ?_
 intros;refine gr 64 69 ?_;refine sJ c11r8.eq_1 ?_
 refine(lv_el1 G8 (hpd.le hg8) _ _).mono ?_
 rintro r h' ⟨G9,rfl,hg9,A9,c9,B9,d9,rfl,hpx⟩
 refine sI ?_
 intros;try refine go_seq ?_
 intros;refine gr 69 74 ?_;refine sJ c11r9.eq_1 ?_
 refine(lv_lead G9 hpx _ _).mono ?_
 rintro r h' ⟨Ga,rfl,hga,Aa,ca,rfl,hll⟩
 refine sI ?_
 intros;try refine go_seq ?_
 intros;refine gr 74 79 ?_;refine sJ c11r10.eq_1 ?_
 refine(lv_back Ga (hpx.le hga) _ _).mono ?_
 rintro r h' ⟨Gb,rfl,hgb,Ab,cb,Bb,db,rfl,hpy⟩
 refine sI ?_
 intros;try refine go_seq ?_
 intros;refine gr 79 84 ?_;refine sJ c11r11.eq_1 ?_
 refine(lv_back2 Gb hpy _ _).mono ?_
 rintro r h' ⟨Gc,rfl,hgc,Ac,cc,Bc,dc,rfl⟩
 refine sI ?_
 intros;try refine go_seq ?_
 intros;try refine go_seq ?_
 have h7c:Gle G7 Gc:=hg8.trans (hg9.trans (hga.trans (hgb.trans hgc)))
 have h5c:Gle G5 Gc:=hg6.trans (hg7.trans h7c)
 refine go_ghost (ghost_sub (.cons _ (.cons_cons _ (.cons_cons _ (.cons_cons _ (.cons _ (List.Sublist.refl _))))))) ?_
 exact lv_end _ Gc b3 A c B d A4 c4 B4 d4 A5 c5 B5 d5 A6 c6 B6 d6 A9 c9 B9 d9 Aa ca Ab cb Bb db (hpa.le (hg4.trans (hg5.trans h5c))) (hpb.le (hg5.trans h5c)) (hpc.le h5c) (hpx.le (hga.trans (hgb.trans hgc))) (hll.le (hgb.trans hgc)) (hpy.le hgc) (eE) (eE) (eE) (eE) (eE) (eE) (eE) (eE) (eE) (eE) (eE) (eE) (eE)
theorem F12:Fun Tryz.prog 12 43 v12 c12 o12:=Fun.mkA Tryz.func12 Tryz.ntmps12
theorem x_rl{P:Program}{h:H}{d n dd:Nat}{l:List SI}{G:Nat→Option Obj}{B:Option Addr}{xs:List Rp}{K:Env→H→Prop}{e:Addr→Env}{j N:Int}{k:Nat}{r:Rp}(hv:SlV G (RE G) 7 (.slice B n dd) xs)(hx:xs[k]?=some r)(hj:j=k)(hN:0≤j∧j < N)(hG:h.G=G)
  (hk:∀ a,B=some a→∀ A1 c1,LE G r.log (cellL r.log A1 c1)→kR P l d (e a) K (.agg (cellL r.log A1 c1).toArray) h):(0≤j∧j < N)∧∃ a,B=some a∧ldX P (.pointer (some ((a.add (j.toNat * 7)).add 2))) (some 3) d l (e a) h K:=by
 obtain⟨G',L,D⟩:=h
 dsimp only at hG
 subst hG
 obtain⟨a,A1,c1,B1,d1,ha,hre,hl3,-⟩:=rep_fz hv hx
 obtain⟨A9,c9,B9,d9,he9,hs9,-,hlim,-⟩:=hre
 unfold cellP at he9
 cases he9
 subst hj
 exact⟨hN,a,ha,_,by simpa using hl3 L D,hk a ha A1 c1 ⟨A1,c1,rfl,hs9,hlim⟩⟩
def fewR(r:Rp):Prop:=r.log.segs.length≤12∧(∀ s∈r.log.segs,s.bytes.length≤5000)∧r.eps.length≤60
def fewP(p:Pt):Prop:=p.reps.length≤8∧p.isr.length≤30∧∀ r∈p.reps,fewR r
theorem fewP.sm{p:Pt}(h:fewP p):smP p:=⟨fun r hr=>⟨fun s hs=>by have:=(h.2.2 r hr).2.1 s hs;omega,by have:=(h.2.2 r hr).1;omega,by have:=(h.2.2 r hr).2.2;omega⟩,by have:=h.1;omega,by have:=h.2.1;omega⟩
theorem PFew_ok(p:Pt)(cs:List Value)(G:Nat→Option Obj)(hp:PE G p cs):FnE Tryz.prog 12 #[.agg cs.toArray] G (fun r=>∃ b,r=.bool b∧(b=true→fewP p)):=by
 obtain⟨A,c,B,d,rfl,⟨A0,c0,he,hc,hm,hA⟩,hv2,hI⟩:=hp
 cases he
 have hv:=hv2
 obtain⟨B0,d0,he,hd,hn,hB⟩:=hv2
 cases he
 refine F12.fnE (by simp) (go_of ?_)
 unfold c12 cellT
 have hd1:decide ((p.reps.length:Int)≤8)=decide (p.reps.length≤8):=decide_eq_decide.2 (by omega)
 have hd2:decide ((p.isr.length:Int)≤30)=decide (p.isr.length≤30):=decide_eq_decide.2 (by omega)
 have hrest:∀ (fr:List Td) (e:Env),(p.reps.length≤9→∀ r∈p.reps,fewR r)→go none Tryz.prog 43 v12.1 v12.2 (retQ o12 fun r _=>∃ b,r=.bool b∧(b=true→fewP p)) (Td.s ((SC.reg false c12r6).seq .ret) :: fr) e ⟨G,[.reg 1 [.int .i64 p.epoch,.int .i64 p.leader,.int .i64 p.least,.slice A p.isr.length c,.slice B p.reps.length d]],[]⟩:=fun fr e hall=>by
  intros;refine gr 34 43 ?_;refine sJ2 c12r6.eq_1 @hd1 ?_
  refine gd (fun k1=>?_) (fun k1=>?_)
  ·have k1:=of_decide_eq_true k1
   refine sJ @hd2 ?_
   intros;refine rV ?_;simp only[push_cast,Nat.reduceBEq]
   exact⟨_,rfl,fun h=>by have h:=of_decide_eq_true h;exact⟨k1,h,hall (by omega)⟩⟩
  ·refine sI ?_
   intros;refine rV ?_;simp only[push_cast,Nat.reduceBEq]
   exact⟨false,rfl,fun h=>by cases h⟩
 intros;refine gr 0 0 ?_;refine sJ c12r0.eq_1 ?_
 intros;refine gr 0 0 ?_;refine sJ c12r1.eq_1 ?_
 (intros;try refine go_st ?_)
 refine go_loop (fun e h=>∃ k:Nat,(k≤p.reps.length∧∀ r∈p.reps.take k,fewR r)∧e 3=.int .i64 k∧h=⟨G,[.reg 1 [.int .i64 p.epoch,.int .i64 p.leader,.int .i64 p.least,.slice A p.isr.length c,.slice B p.reps.length d]],[]⟩) (fun e h=>p.reps.length - iv (e 3)) ?_ ?_
 ·exact⟨0,⟨Nat.zero_le _,by simp⟩,eE,rfl⟩
 rintro e h ⟨k,⟨hk,hall⟩,e3,rfl⟩
 refine go_keep [3] ?_
 refine sJ @e3 ?_
 intros;refine gr 4 12 ?_;refine sJ c12r2.eq_1 ?_
 refine gd (fun k1=>?_) (fun k1=>?_)
 ·have k1:k < p.reps.length:=by have:=of_decide_eq_true k1;omega
  refine sI ?_
  intros;refine gc ?_;refine sI ?_
  refine gb (fun k2=>?_) (fun k2=>?_)
  ·have hw:=inc_i k d (by omega) hn
   obtain⟨s,hs⟩:∃ s,p.reps[k]?=some s:=⟨p.reps[k],List.getElem?_eq_getElem (by omega)⟩
   have hno:∀ (fr:List Td) (e:Env),go none Tryz.prog 43 v12.1 v12.2 (retQ o12 fun r _=>∃ b,r=.bool b∧(b=true→fewP p)) (Td.s ((SC.reg false c12r4).seq .ret) :: fr) e ⟨G,[.reg 1 [.int .i64 p.epoch,.int .i64 p.leader,.int .i64 p.least,.slice A p.isr.length c,.slice B p.reps.length d]],[]⟩:=fun fr e=>by
    intros;refine gr 0 0 ?_;refine sJ c12r4.eq_1 ?_
    intros;refine rV ?_;simp only[push_cast,Nat.reduceBEq]
    exact⟨false,rfl,fun h=>by cases h⟩
   intros;refine gN ?_
   intros;refine gr 16 32 ?_;refine sJ c12r3.eq_1 ?_
   refine x_rl hv hs rfl (by omega) rfl ?_
   rintro a ha A1 c1 hle
   have hfew:=LFew_ok s.log _ G hle
   refine sI ?_
   unfold cellL at hfew ⊢
   refine(hfew _ _).mono ?_
   rintro r h ⟨⟨b,rfl,hb⟩,rfl⟩
   cases b with
   | false =>
    refine sI ?_
    intros;refine gc ?_;refine sI ?_
    exact hno _ _
   | true =>
    have hb:=hb rfl
    refine sI ?_
    refine x_lg (k:=k) (Pu:=fun u=>∃ B d,u=.slice B s.eps.length d) hB hs rfl rfl (fun cs h=>by obtain⟨_,_,B,d,rfl,-⟩:=h;exact⟨_,rfl,B,d,rfl⟩) ?_
    rintro a2 ha2 u ⟨B2,d2,rfl⟩
    refine sI ?_
    intros;refine gc ?_;refine sI ?_
    refine gb (fun k3=>?_) (fun k3=>?_)
    ·exact hno _ _
    ·have k3:=of_decide_eq_false k3
     intros;refine gN ?_
     intros;refine gr 13 15 ?_;refine sJ2 c12r5.eq_1 @hw ?_
     (intros;try refine go_st ?_)
     refine go_l ⟨⟨k+1,⟨by omega,fun z hz=>?_⟩,eE,rfl⟩,?_⟩
     ·rw[take_snoc' hs]at hz
      rcases List.mem_append.1 hz with h | h
      ·exact hall z h
      ·simp at h;subst h;exact⟨hb.1,hb.2,by omega⟩
     ·refine sI ?_;omega
  ·have k2:=of_decide_eq_false k2
   refine go_exit ?_
   refine sI ?_
   intros;refine gN ?_
   exact hrest _ _ fun h=>by omega
 ·have k1:k=p.reps.length:=by have:=of_decide_eq_false k1;omega
  subst k1
  rw[List.take_length]at hall
  refine sI ?_
  intros;refine gc ?_;refine sI ?_
  refine go_exit ?_
  refine sI ?_
  intros;refine gN ?_
  exact hrest _ _ fun _=>hall
theorem raiseP_rep{p:Pt}{i:Nat}{r:Rp}(h:p.reps[i]?=some r):∃ m,(raiseP p).reps[i]?=some { r with high:=m }:=by
 unfold raiseP
 split
 ·exact⟨r.high,h⟩
 ·split
  ·exact⟨r.high,h⟩
  ·rename_i k hk
   split
   ·exact⟨r.high,h⟩
   ·rename_i x hx
    by_cases hik:k=i
    ·subst hik
     rw[h]at hx
     cases hx
     exact⟨_,List.getElem?_set_self (List.getElem?_eq_some_iff.1 h).1⟩
    ·refine⟨r.high,?_⟩
     show(p.reps.set k _)[i]?=_
     rw[List.getElem?_set_ne hik,h]
theorem dnn(n:Int):decide (n≠n)=false:=decide_eq_false fun h=>h rfl
theorem okP_one{p:Pt}(h:okP p){k i:Nat}{r s:Rp}(hr:p.reps[k]?=some r)(hs:p.reps[i]?=some s)(he:r.id=s.id):k=i:=by
 have h1:=atR_is h.1.2.1.2.2 hr
 have h2:=atR_is h.1.2.1.2.2 hs
 rw[he,h2]at h1
 exact(Option.some.inj h1).symm
theorem okP_set{p:Pt}{k:Nat}{r y:Rp}(h:okP p)(hr:p.reps[k]?=some r)(hid:y.id=r.id)(hy:okR y)(hl:r.id=p.leader→y.up=true):okP (setR p k y):=by
 obtain⟨⟨h1,h2,h3,h4,h5⟩,h6,h7⟩:=h
 have hkl:=(List.getElem?_eq_some_iff.1 hr).1
 have e1:idsR (p.reps.set k y)=idsR p.reps:=ids_set hr hid
 have e2:(p.reps.set k y).length=p.reps.length:=List.length_set ..
 refine⟨⟨h1,by show RisesI (idsR (p.reps.set k y));rw[e1];exact h2,by show(p.reps.set k y).length≤5;rw[e2];exact h3,by show 1≤p.least∧p.least≤((p.reps.set k y).length:Int);rw[e2];exact h4,fun z hz=>?_⟩,⟨h6.1,fun n hn=>by show n∈idsR (p.reps.set k y);rw[e1];exact h6.2 n hn⟩,?_⟩
 ·rcases List.mem_or_eq_of_mem_set hz with hz | rfl
  ·exact h5 z hz
  ·exact hy
 ·rcases h7 with h7 | ⟨⟨z,hz,hz1,hz2⟩,h8⟩
  ·exact .inl h7
  refine .inr ⟨?_,h8⟩
  obtain⟨i,hi⟩:=List.mem_iff_getElem?.1 hz
  by_cases hik:k=i
  ·subst hik
   rw[hr]at hi
   cases hi
   exact⟨y,List.mem_set hkl y,by rw[hid];exact hz1,hl hz1⟩
  ·refine⟨z,List.mem_of_getElem? (i:=i) ?_,hz1,hz2⟩
   show(p.reps.set k y)[i]?=some z
   rw[List.getElem?_set_ne hik,hi]
theorem okP_raise{p:Pt}(h:okP p):okP (raiseP p):=by
 by_cases h0:p.leader < 0
 ·unfold raiseP;rw[if_pos h0];exact h
 obtain⟨k,r,hk,hr,hid⟩:=lead_at h h0
 have hup:r.up=true:=by
  rcases h.2.2 with h7 | ⟨⟨z,hz,hz1,hz2⟩,h8⟩
  ·omega
  obtain⟨i,hi⟩:=List.mem_iff_getElem?.1 hz
  obtain rfl:=okP_one h hr hi (by rw[hid,hz1])
  rw[hr]at hi
  cases hi
  exact hz2
 have hok:=h.1.2.2.2.2 r (List.mem_of_getElem? hr)
 have hle:=leastF_le p.reps k r p.isr (EndL r.log)
 have hei:=EndL_i r.log
 rw[raiseP_1 h0 hk hr]
 obtain⟨⟨g1,g2,g3,g4⟩,g5,g6⟩:=hok
 have g6:=g6 hup
 refine okP_set h hr rfl ⟨⟨g1,g2,?_,?_⟩,g5,fun _=>?_⟩ fun _=>hup
 all_goals dsimp only;omega
theorem F78:Fun Tryz.prog 78 26 v78 c78 o78:=Fun.mkA Tryz.func78 Tryz.ntmps78
theorem eqf_ee(x y:Ep):eqfV true [0,0] (.agg #[Value.int .i64 x.1,Value.int .i64 x.2]) (.agg #[Value.int .i64 y.1,Value.int .i64 y.2])=some (.bool (decide (x≠y))):=by
 have:decide (x=y)=(decide (x.1=y.1) && decide (x.2=y.2)):=by
  rw[Bool.eq_iff_iff]
  simp[Prod.ext_iff]
 simp[eqfV,eqC,this,Bool.not_and]
theorem ESame_ok(a b:List Ep)(v u:Value)(G:Nat→Option Obj)(ha:SEp G v a)(hb:SEp G u b):FnS Tryz.prog 78 #[v,u] G (.bool (decide (a=b))):=by
 obtain⟨A,c,rfl,hc,hm,hA⟩:=ha
 obtain⟨B,c',rfl,hc',hm',hB⟩:=hb
 refine F78.fnS (by simp) (go_of ?_)
 unfold c78
 intros;refine gr 0 0 ?_;(refine sJ c78r0.eq_1 ?_;try with_reducible exact True.intro)
 intros;refine gr 6 10 ?_;(refine sJ c78r1.eq_1 ?_;try with_reducible exact True.intro)
 intros;refine gc ?_;(refine sI ?_;try with_reducible exact True.intro)
 refine gb (fun ht=>?_) (fun ht=>?_)
 ·intros;refine gr 0 0 ?_;(refine sJ c78r2.eq_1 ?_;try with_reducible exact True.intro)
  intros;refine rV ?_;simp only[push_cast,Nat.reduceBEq]
  have:¬ a=b:=fun e=>by subst e;simp at ht
  simp[this]
 have hlen:a.length=b.length:=by simp at ht;omega
 intros;refine gr 11 12 ?_;(refine sJ c78r3.eq_1 ?_;try with_reducible exact True.intro)
 (intros;try refine go_st ?_)
 refine go_loop (fun e h=>∃ k:Nat,(k≤a.length∧a.take k=b.take k)∧e 13=.int .i64 k∧e 12=.int .i64 a.length∧e 0=.slice A a.length c∧e 1=.slice B b.length c'∧h=⟨G,[],[]⟩) (fun e h=>a.length - iv (e 13)) ?_ ?_
 ·exact⟨0,⟨Nat.zero_le _,rfl⟩,eE,eE,eE,eE,rfl⟩
 ·rintro e h ⟨k,⟨hk,hch⟩,e13,e12,e0,e1,rfl⟩
  refine go_keep [0,1,12,13] ?_
  (refine sJ4 @e0 @e1 @e12 @e13 ?_;try with_reducible exact True.intro)
  intros;refine gr 0 0 ?_;(refine sJ c78r4.eq_1 ?_;try with_reducible exact True.intro)
  intros;refine gc ?_;(refine sI ?_;try with_reducible exact True.intro)
  refine gb (fun ht=>?_) (fun ht=>?_)
  ·have hkl:k < a.length:=by simpa using ht
   obtain⟨x,hx⟩:∃ x,a[k]?=some x:=⟨a[k],List.getElem?_eq_getElem (by omega)⟩
   obtain⟨y,hy⟩:∃ y,b[k]?=some y:=⟨b[k],List.getElem?_eq_getElem (by omega)⟩
   intros;refine gr 15 16 ?_;(refine sJ c78r5.eq_1 ?_;try with_reducible exact True.intro)
   (intros;try refine go_st ?_);refine go_q 16 24 (by decide) ?_;(refine sJ c78r6.eq_1 ?_;try with_reducible exact True.intro)
   refine hA.y_ld hx rfl rfl ?_
   rintro a1 ha1 cs ⟨rfl,-⟩
   (refine sI ?_;try with_reducible exact True.intro)
   refine hB.y_ld hy rfl rfl ?_
   rintro a2 ha2 cs ⟨rfl,-⟩
   (refine sJ @eqf_ee ?_;try with_reducible exact True.intro)
   intros;refine gc ?_;(refine sI ?_;try with_reducible exact True.intro)
   refine gb (fun h4=>?_) (fun h4=>?_)
   ·intros;refine gr 0 0 ?_;(refine sJ c78r7.eq_1 ?_;try with_reducible exact True.intro)
    intros;refine rV ?_;simp only[push_cast,Nat.reduceBEq]
    have:¬ a=b:=fun e=>by subst e;rw[hx]at hy;cases hy;simp at h4
    simp[this]
   ·intros;refine gr 25 26 ?_;(refine sJ c78r8.eq_1 ?_;try with_reducible exact True.intro)
    (intros;try refine go_st ?_)
    have hw3:IntKind.i64.wrap ((k:Int)+1)=(k:Int)+1:=by have:=hm;unfold maxLen at this;rw[w64_id] <;> omega
    refine go_l ⟨⟨k+1,⟨by omega,?_⟩,?_⟩,?_⟩
    ·have hxy:x=y:=by simp at h4;exact Prod.ext h4.1 h4.2
     rw[List.take_add_one,List.take_add_one,hch,hx,hy,hxy]
    ·refine⟨(eJ @hw3),eE,eE,eE,rfl⟩
    ·(refine sJ @hw3 ?_;try with_reducible exact True.intro);omega
  ·have hkl:k=a.length:=by simp at ht;omega
   subst hkl
   refine go_exit ?_
   (refine sI ?_;try with_reducible exact True.intro)
   intros;refine gr 0 0 ?_;(refine sJ c78r9.eq_1 ?_;try with_reducible exact True.intro)
   intros;refine rV ?_;simp only[push_cast,Nat.reduceBEq]
   have:a=b:=by
    rw[List.take_length,hlen,List.take_length]at hch
    exact hch
   simp[this]
def EpUp(a b:Ep):Prop:=a.1 < b.1∧a.2 < b.2
theorem chk_iff(l:List Ep):chkN l=0↔(∀ x∈l,okE x=true)∧l.Pairwise EpUp:=by
 constructor
 ·intro h
  refine⟨fun x hx=>?_,?_⟩
  ·obtain⟨i,hi⟩:=List.getElem?_of_mem hx
   exact chk_ok h hi
  ·rw[List.pairwise_iff_getElem]
   intro i j hi hj hij
   exact chk_mono h hij (List.getElem?_eq_getElem hi) (List.getElem?_eq_getElem hj)
 ·rintro⟨h1,h2⟩
  rw[chkN,if_pos]
  intro i x _ hx
  refine⟨h1 x (List.mem_of_getElem? hx),fun p h0 hp=>?_⟩
  rw[List.pairwise_iff_getElem]at h2
  have hi:=List.getElem?_eq_some_iff.1 hx
  have hj:=List.getElem?_eq_some_iff.1 hp
  have:=h2 (i - 1) i hj.1 hi.1 (by omega)
  rw[hi.2,hj.2]at this
  exact this
theorem ep_last{l:List Ep}{p:Ep}(hp:l[l.length - 1]?=some p):∃ l',l=l'++[p]:=by
 have hl:=(List.getElem?_eq_some_iff.1 hp).1
 have hne:l≠[]:=fun e=>by subst e;simp at hl
 refine⟨l.dropLast,?_⟩
 have:=List.dropLast_concat_getLast hne
 rw[List.getLast_eq_getElem]at this
 rw[(List.getElem?_eq_some_iff.1 hp).2]at this
 exact this.symm
theorem puts_ok{l:List Ep}{n s:Int}(h:(putM l n s).2=0):chkN (putM l n s).1=0∧∃ q,(putM l n s).1[(putM l n s).1.length - 1]?=some q∧q.1=n∧(s < q.2→l[l.length - 1]?=some q):=by
 by_cases h1:chkN l≠0∨¬ okE (n,s)=true
 ·have e:putM l n s=([],1):=by rw[putM,if_pos h1]
  rw[e]at h
  cases h
 ·have h2:chkN l=0∧okE (n,s)=true:=⟨Classical.not_not.1 fun h=>h1 (.inl h),Classical.not_not.1 fun h=>h1 (.inr h)⟩
  have e:=putM_eq h2.1 h2.2
  cases hp:l[l.length - 1]? with
  | none =>
   rw[hp]at e
   rw[e]
   refine⟨?_,(n,s),rfl,rfl,fun h=>?_⟩
   ·rw[chk_iff]
    exact⟨fun x hx=>by simp at hx;subst hx;exact h2.2,by simp⟩
   ·dsimp only at h;omega
  | some p =>
   rw[hp]at e
   dsimp only at e
   obtain⟨l',rfl⟩:=ep_last hp
   have hpw:=(chk_iff _).1 h2.1
   have hpa:=List.pairwise_append.1 hpw.2
   split at e
   ·rw[e]at h;cases h
   ·split at e
    ·rename_i h3 h4
     rw[e]
     exact⟨h2.1,p,hp,h4.symm,fun _=>rfl⟩
    ·split at e
     ·rw[e]at h;cases h
     ·rename_i h3 h4 h5
      split at e
      ·rename_i h6
       have hset:(l'++[p]).set ((l'++[p]).length - 1) (n,s)=l'++[(n,s)]:=by
        rw[List.length_append,List.length_singleton,Nat.add_sub_cancel,List.set_append_right _ _ (Nat.le_refl _),Nat.sub_self]
        rfl
       rw[hset]at e
       rw[e]
       refine⟨?_,(n,s),by simp,rfl,fun h=>by dsimp only at h;omega⟩
       rw[chk_iff]
       refine⟨fun x hx=>?_,?_⟩
       ·rcases List.mem_append.1 hx with hx | hx
        ·exact hpw.1 x (List.mem_append_left _ hx)
        ·simp at hx;subst hx;exact h2.2
       ·refine List.pairwise_append.2 ⟨hpa.1,by simp,fun a ha b hb=>?_⟩
        simp at hb
        subst hb
        have:=hpa.2.2 a ha p (by simp)
        unfold EpUp at *
        dsimp only
        omega
      ·rename_i h6
       rw[e]
       refine⟨?_,(n,s),by simp,rfl,fun h=>by dsimp only at h;omega⟩
       rw[chk_iff]
       refine⟨fun x hx=>?_,?_⟩
       ·rcases List.mem_append.1 hx with hx | hx
        ·exact hpw.1 x hx
        ·simp at hx;subst hx;exact h2.2
       ·refine List.pairwise_append.2 ⟨hpw.2,by simp,fun a ha b hb=>?_⟩
        simp at hb
        subst hb
        have hpn:p.1 < n∧p.2 < s:=by omega
        rcases List.mem_append.1 ha with ha | ha
        ·have:=hpa.2.2 a ha p (by simp)
         unfold EpUp at *
         dsimp only
         omega
        ·simp at ha;subst ha;exact hpn
theorem lead_ok{p:Pt}{k:Nat}{r:Rp}(h:chkPt p=0)(h0:¬ p.leader < 0)(hk:atR p.reps p.leader=some k)(hr:p.reps[k]?=some r):leadP p=(r.log,0):=by
 rw[leadP,if_neg (fun h'=>h' h),if_neg h0,hk]
 dsimp only
 rw[hr]
 rfl
theorem raiseP_ne{p:Pt}{i:Nat}{r:Rp}(h:p.reps[i]?=some r)(hid:r.id≠p.leader):(raiseP p).reps[i]?=some r:=by
 unfold raiseP
 split
 ·exact h
 ·split
  ·exact h
  ·rename_i k hk
   split
   ·exact h
   ·rename_i x hx
    obtain⟨y,hy,hyid⟩:=atR_get hk
    have hik:k≠i:=fun e=>by
     subst e
     rw[h]at hy
     cases hy
     exact hid hyid
    show(p.reps.set k _)[i]?=_
    rw[List.getElem?_set_ne hik,h]
theorem lead_up{p:Pt}{k:Nat}{r:Rp}(h:okP p)(h0:¬ p.leader < 0)(hr:p.reps[k]?=some r)(hid:r.id=p.leader):r.up=true:=by
 rcases h.2.2 with h7 | ⟨⟨z,hz,hz1,hz2⟩,h8⟩
 ·omega
 obtain⟨i,hi⟩:=List.mem_iff_getElem?.1 hz
 obtain rfl:=okP_one h hr hi (by rw[hid,hz1])
 rw[hr]at hi
 cases hi
 exact hz2
theorem app_spec(p:Pt)(b:Batch):((appP p b).1.2≠0∧(appP p b).1.1=noneP∧(appP p b).2=0) ∨
  (chkPt p=0∧¬ p.leader < 0∧∃ (k:Nat) (r:Rp) (mb:Batch),atR p.reps p.leader=some k∧p.reps[k]?=some r∧r.id=p.leader∧movedB b (EndL r.log)=(mb,0)∧(appL r.log { mb with epoch:=p.epoch }).2=0∧(putM r.eps p.epoch mb.base).2=0 ∧
   appP p b=((raiseP (setR p k { r with log:=(appL r.log { mb with epoch:=p.epoch }).1,eps:=(putM r.eps p.epoch mb.base).1 }),0),mb.base)):=by
 have herr:∀ (q:Pt) (e w:Int),e≠0→chkPt p=0→appF b p=((q,e),w)→((appP p b).1.2≠0∧(appP p b).1.1=noneP∧(appP p b).2=0):=fun q e w he hc hF=>by
  rw[appP_eq,hF]
  dsimp only
  rw[chgQ_e hc he,if_neg he]
  exact⟨he,rfl,rfl⟩
 by_cases k0:chkPt p=0
 rotate_left
 ·refine .inl ?_
  rw[appP_eq]
  have:chgQ p (appF b p).1=(noneP,chkPt p):=by rw[chgQ,if_neg k0]
  rw[this,if_neg k0]
  exact⟨k0,rfl,rfl⟩
 by_cases k1:p.leader < 0
 ·exact .inl (herr p 180 0 (by decide) k0 (by unfold appF;rw[if_pos k1]))
 by_cases k2:(p.isr.length:Int) < p.least
 ·exact .inl (herr p 181 0 (by decide) k0 (by unfold appF;rw[if_neg k1,if_pos k2]))
 obtain⟨k,r,hk,hr,hid⟩:=lead_at (chkPt_0 k0) k1
 generalize hm:movedB b (EndL r.log)=m
 obtain⟨mb,me⟩:=m
 by_cases k3:me=0
 rotate_left
 ·refine .inl (herr p me 0 k3 k0 ?_)
  unfold appF
  rw[if_neg k1,if_neg k2,hk]
  dsimp only
  rw[hr]
  dsimp only
  rw[hm]
  dsimp only
  rw[if_pos k3]
 subst k3
 generalize ha:appL r.log { mb with epoch:=p.epoch }=a
 obtain⟨al,ae⟩:=a
 by_cases k4:ae=0
 rotate_left
 ·refine .inl (herr p ae mb.base k4 k0 ?_)
  unfold appF
  rw[if_neg k1,if_neg k2,hk]
  dsimp only
  rw[hr]
  dsimp only
  rw[hm]
  dsimp only
  rw[if_neg (fun h=>h rfl),ha]
  dsimp only
  rw[if_pos k4]
 subst k4
 generalize hp:putM r.eps p.epoch mb.base=q
 obtain⟨pl,pe⟩:=q
 by_cases k5:pe=0
 rotate_left
 ·refine .inl (herr p pe mb.base k5 k0 ?_)
  unfold appF
  rw[if_neg k1,if_neg k2,hk]
  dsimp only
  rw[hr]
  dsimp only
  rw[hm]
  dsimp only
  rw[if_neg (fun h=>h rfl),ha]
  dsimp only
  rw[if_neg (fun h=>h rfl),hp]
  dsimp only
  rw[if_pos k5]
 subst k5
 refine .inr ⟨k0,k1,k,r,mb,hk,hr,hid,hm,by rw[ha],by rw[hp],?_⟩
 rw[appP_eq,appF_ok k1 k2 hk hr rfl hm ha hp]
 dsimp only
 rw[chgQ_0 k0,if_pos rfl,ha,hp]
theorem moved_base{b mb:Batch}{n:Int}(h:movedB b n=(mb,0)):mb.base=n:=by
 unfold movedB at h
 split at h
 ·split at h
  ·split at h
   ·cases h
    rfl
   ·rename_i h1
    exact absurd (Prod.ext_iff.1 h).2 h1
  ·rename_i h1
   exact absurd (Prod.ext_iff.1 h).2 h1
 ·cases h
theorem okR_app{r:Rp}{b:Batch}{ep:Int}(h:okR r)(hup:r.up=true)(ha:(appL r.log b).2=0)(hp:(putM r.eps ep b.base).2=0):okR { r with log:=(appL r.log b).1,eps:=(putM r.eps ep b.base).1 }:=by
 obtain⟨⟨g1,g2,g3,g4⟩,g5,g6⟩:=h
 obtain⟨⟨a1,a2,a3,a4⟩,-,a5,a6,-⟩:=appL_ok ha
 have g6:=g6 hup
 have hle:=err_le a2
 have hc:=(puts_ok hp).1
 refine⟨⟨g1,hc,g3,g4⟩,?_,fun _=>?_⟩
 ·unfold logR
  rw[if_pos hup]
  exact a5
 ·show r.high≤EndL (appL r.log b).1
  rw[EndL,if_pos a5,a6]
  rw[EndL,if_pos a1]at g6
  omega
theorem okP_app{p:Pt}{k:Nat}{r:Rp}{b:Batch}(h:okP p)(h0:¬ p.leader < 0)(hr:p.reps[k]?=some r)(hid:r.id=p.leader)(ha:(appL r.log b).2=0)(hp:(putM r.eps p.epoch b.base).2=0):
  okP (setR p k { r with log:=(appL r.log b).1,eps:=(putM r.eps p.epoch b.base).1 }) :=
 okP_set h hr rfl (okR_app (h.1.2.2.2.2 r (List.mem_of_getElem? hr)) (lead_up h h0 hr hid) ha hp) fun _=>(lead_up h h0 hr hid:r.up=true)
theorem raise_sm{p:Pt}(h:smP p):smP (raiseP p):=by
 obtain⟨s1,s2,s3,s4,s5⟩:=raiseP_same p
 refine⟨fun z hz=>?_,by rw[s5];exact h.2.1,by rw[s4];exact h.2.2⟩
 obtain⟨i,hi⟩:=List.mem_iff_getElem?.1 hz
 have hi2:=(List.getElem?_eq_some_iff.1 hi).1
 rw[s5]at hi2
 obtain⟨m,hm⟩:=raiseP_rep (p:=p) (i:=i) (List.getElem?_eq_getElem hi2)
 rw[hi]at hm
 cases hm
 have:=h.1 _ (List.getElem_mem hi2)
 exact this
theorem set_sm{p:Pt}{k:Nat}{r:Rp}(h:smP p)(hr:smR r):smP (setR p k r):=by
 refine⟨fun z hz=>?_,by show(p.reps.set k r).length≤1000;rw[List.length_set];exact h.2.1,h.2.2⟩
 rcases List.mem_or_eq_of_mem_set hz with hz | rfl
 ·exact h.1 z hz
 ·exact hr
theorem app_sm{r:Rp}{b:Batch}{ep s:Int}(h:fewR r)(ha:(appL r.log b).2=0):smR { r with log:=(appL r.log b).1,eps:=(putM r.eps ep s).1 }:=by
 obtain⟨-,-,a5,-,-,a7⟩:=appL_ok ha
 have:=putM_len r.eps ep s
 refine⟨sm_of a5,?_,?_⟩
 ·show(appL r.log b).1.segs.length≤1000
  have:=h.1
  omega
 ·show(putM r.eps ep s).1.length≤1000
  have:=h.2.2
  omega
theorem app_law{p:Pt}{b:Batch}(hf:fewP p):((appP p b).1.2≠0∧(appP p b).1.1=noneP∧(appP p b).2=0) ∨
  ∃ (r:Rp) (mb:Batch) (q:Pt) (l:Lg),appP p b=((q,0),EndL r.log)∧r∈p.reps∧smP q∧leadP p=(r.log,0)∧leadP q=(l,0)∧smL l.segs∧movedB b (EndL r.log)=(mb,0)∧AllL l=AllL r.log++[{ mb with epoch:=p.epoch }]∧q.reps.length=p.reps.length ∧
   ∀ (i:Nat) (a:Rp),p.reps[i]?=some a→a.id≠p.leader→q.reps[i]?=some a:=by
 rcases app_spec p b with h | ⟨k0,k1,k,r,mb,hk,hr,hid,hm,ha,hp,he⟩
 ·exact .inl h
 have hmb:=moved_base hm
 have hok:=chkPt_0 k0
 have hok2:okP (setR p k { r with log:=(appL r.log { mb with epoch:=p.epoch }).1,eps:=(putM r.eps p.epoch mb.base).1 }):=okP_app (b:={ mb with epoch:=p.epoch }) hok k1 hr hid ha hp
 have hsm2:=set_sm (k:=k) hf.sm (app_sm (b:={ mb with epoch:=p.epoch }) (ep:=p.epoch) (s:=mb.base) (hf.2.2 r (List.mem_of_getElem? hr)) ha)
 obtain⟨⟨a1,-⟩,-,a5,-⟩:=appL_ok ha
 have hall:=appL_all ha
 generalize (putM r.eps p.epoch mb.base).1=pl at *
 generalize (appL r.log { mb with epoch:=p.epoch }).1=al at *
 have hkl:=(List.getElem?_eq_some_iff.1 hr).1
 obtain⟨m,hrs⟩:=raiseP_rep (p:=setR p k { r with log:=al,eps:=pl }) (set_get hr)
 obtain⟨s1,s2,s3,s4,s5⟩:=raiseP_same (setR p k { r with log:=al,eps:=pl })
 have hokq:=okP_raise hok2
 have hat:=atR_is hokq.1.2.1.2.2 hrs
 refine .inr ⟨r,mb,_,al,by rw[he,hmb],List.mem_of_getElem? hr,raise_sm hsm2,lead_ok k0 k1 hk hr,?_,sm_of a5,hm,?_,?_,fun i a hi hne=>?_⟩
 ·refine lead_ok (k:=k) (r:={ r with log:=al,eps:=pl,high:=m }) (chkPt_yes hokq) (by rw[s2];exact k1) ?_ hrs
  rw[s2]
  show atR _ p.leader=some k
  rw[← hid]
  exact hat
 ·rw[AllL,if_pos a5,AllL,if_pos a1,hall]
 ·rw[s5]
  show(p.reps.set k _).length=_
  rw[List.length_set]
 ·refine raiseP_ne ?_ hne
  show(p.reps.set k _)[i]?=_
  rw[List.getElem?_set_ne fun e=>?_,hi]
  subst e
  rw[hr]at hi
  cases hi
  exact hne hid
theorem F23:Fun Tryz.prog 23 11 v23 c23 o23:=Fun.mkA Tryz.func23 Tryz.ntmps23
theorem F28:Fun Tryz.prog 28 38 v28 c28 o28:=Fun.mkA Tryz.func28 Tryz.ntmps28
theorem few18_ok(p:Pt)(b:Batch)(cs ds:List Value)(G:Nat→Option Obj)(hp:PE G p cs)(hb:BE G b ds):FnE Tryz.prog 23 #[.agg cs.toArray,.agg ds.toArray] G (fun r=>∃ b,r=.bool b∧(b=true→fewP p)):=by
 have h1:=PFew_ok p cs G hp
 have h2:=Few_ok b ds G hb
 obtain⟨A,c,B,d,rfl,-⟩:=hp
 obtain⟨B2,d2,rfl,-⟩:=hb
 refine F23.fnE (by simp) (go_of ?_)
 unfold c23
 unfold cellT at h1 ⊢
 unfold cellH at h2 ⊢
 intros;refine gr 0 0 ?_;(refine sJ c23r0.eq_1 ?_;try with_reducible exact True.intro)
 intros;refine gr 5 11 ?_;(refine sJ c23r1.eq_1 ?_;try with_reducible exact True.intro)
 refine(h1 _ _).mono ?_
 rintro r h ⟨⟨b1,rfl,hb⟩,rfl⟩
 cases b1 with
 | false =>
  (refine sI ?_;try with_reducible exact True.intro)
  intros;refine rV ?_;simp only[push_cast,Nat.reduceBEq]
  exact⟨_,rfl,fun h=>by cases h⟩
 | true =>
  (refine sI ?_;try with_reducible exact True.intro)
  refine(h2 _ _).mono ?_
  rintro r h ⟨⟨b2,rfl,-⟩,rfl⟩
  (refine sI ?_;try with_reducible exact True.intro)
  intros;refine rV ?_;simp only[push_cast,Nat.reduceBEq]
  exact⟨_,rfl,fun h=>hb rfl⟩
theorem dec_eq{α:Type}[DecidableEq α](x:α):decide (x=x)=true:=decide_eq_true rfl
theorem SameRep_ok(a:Rp)(cs ds:List Value)(G:Nat→Option Obj)(ha:RE G a cs)(hb:RE G a ds):FnS Tryz.prog 28 #[.agg cs.toArray,.agg ds.toArray] G (.bool true):=by
 obtain⟨A1,c1,B1,d1,rfl,q1,q2,q3,q4⟩:=ha
 obtain⟨A2,c2,B2,d2,rfl,t1,t2,t3,t4⟩:=hb
 have h1:=LSame_ok a.log a.log (cellL a.log A1 c1) (cellL a.log A2 c2) G ⟨A1,c1,rfl,q1,q3⟩ ⟨A2,c2,rfl,t1,t3⟩
 have h2:=ESame_ok a.eps a.eps _ _ G q2 t2
 rw[dec_eq]at h1 h2
 refine F28.fnS (by simp) (go_of ?_)
 unfold c28 cellP
 unfold cellL at h1
 intros;refine gr 0 0 ?_;(refine sJ c28r0.eq_1 ?_;try with_reducible exact True.intro)
 have hu:(a.up == a.up)=true:=by simp
 intros;refine gr 6 38 ?_;(refine sJ3 c28r1.eq_1 @dec_eq @hu ?_;try with_reducible exact True.intro)
 (refine sJ @dec_eq ?_;try with_reducible exact True.intro)
 refine(h1 _ _).mono ?_;rintro _ _ ⟨rfl,rfl⟩;(refine sI ?_;try with_reducible exact True.intro)
 refine(h2 _ _).mono ?_;rintro _ _ ⟨rfl,rfl⟩;(refine sI ?_;try with_reducible exact True.intro)
 intros;refine rV ?_;simp only[push_cast,Nat.reduceBEq]
theorem All_own(l:Lg)(cs:List Value)(G:Nat→Option Obj)(hl:LE G l cs)(hb:smL l.segs):FnO Tryz.prog 27 #[.agg cs.toArray] G [] (fun G' L' r=>OwnL (BE G') 43 10 (AllL l) L' r):=by
 have hl0:=hl
 have hchk:=ChkL_ok l cs G hl hb
 obtain⟨A,c,rfl,hsl,hi,hj⟩:=hl
 refine F27.fnO (by simp) noRegs_nil (go_of ?_)
 unfold c27
 unfold cellL at hchk hl0 ⊢
 intros;refine gr 0 0 ?_;(refine sJ c27r0.eq_1 ?_;try with_reducible exact True.intro)
 intros;refine gr 3 5 ?_;(refine sJ c27r1.eq_1 ?_;try with_reducible exact True.intro)
 refine(hchk _ _).mono ?_;rintro _ _ ⟨rfl,rfl⟩;(refine sI ?_;try with_reducible exact True.intro)
 intros;refine gc ?_;(refine sI ?_;try with_reducible exact True.intro)
 refine gb (fun k1=>?_) (fun k1=>?_)
 ·have k1:=of_decide_eq_true k1
  intros;refine gr 0 0 ?_;(refine sJ c27r2.eq_1 ?_;try with_reducible exact True.intro)
  (intros;try refine go_st ?_)
  refine go_ghost (ghost_nil none 43 10) ?_
  refine go_ret (retQ_o _ rfl (.cons_cons _ (List.nil_sublist _)) (noRegs_row noRegs_nil) ?_)
  rw[AllL,if_neg k1]
  exact⟨[],.nil,rfl⟩
 have k1:chkL l=0:=by simpa using k1
 intros;refine gN ?_
 intros;refine gr 6 11 ?_;(refine sJ c27r3.eq_1 ?_;try with_reducible exact True.intro)
 refine(batches_ok l l.start _ G hl0 hb _ _).mono ?_
 rintro r h' ⟨G1,rfl,hg1,b1,b2,rfl,hit⟩
 (refine sI ?_;try with_reducible exact True.intro)
 refine(Collect_ok _ _ _ G1 hit F130.enters (reach_cnt _ k1).2 _ _).mono ?_
 rintro r h' ⟨G2,L',rfl,hg2,zc,hzc,rfl⟩
 (refine sI ?_;try with_reducible exact True.intro)
 (intros;try refine go_st ?_)
 refine go_ret (retQ_o _ rfl (.cons_cons _ (List.nil_sublist _)) (noRegs_row noRegs_nil) ?_)
 rw[AllL,if_pos k1]
 exact⟨zc,hzc,rfl⟩
theorem reach_all_len{l:Lg}(h:chkL l=0):(allL l).length≤900000:=by
 have h1:=chk_len h
 have h2:=reach_len l.start (bsS l.segs)
 have h3:=len_allB (reach l.start (bsS l.segs))
 unfold allL
 omega
theorem F6:Fun Tryz.prog 6 130 v6 c6 o6:=Fun.mkA Tryz.func6 Tryz.ntmps6
theorem rmovedD(x:Batch)(base:Int)(cs:List Value)(G:Nat→Option Obj)(hx:BE G x cs)(hbi:I64 base):FnD Tryz.prog 26 #[.agg cs.toArray,.int .i64 base] G (fun G' r=>∃ cs',r=.tuple #[.agg cs'.toArray,.int .i64 (movedB x base).2]∧BE G' (movedB x base).1 cs') :=
 FnO.fnD (L1:=[]) (RMoved_ok x base cs G hx hbi) fun G' L' v ⟨cs',h1,h2⟩ _ L D=>(OwnBt.gx h2).mono fun h' ⟨G2,e,hg,hb⟩=>⟨G2,e,hg,cs',h1,hb⟩
theorem ReplAppended_ok(p:Pt)(b:Batch)(cs cb:List Value)(G:Nat→Option Obj)(hp:PE G p cs)(hb:BE G b cb):FnS Tryz.prog 6 #[.agg cs.toArray,.agg cb.toArray] G (.bool true):=by
 have hlive:=LV_ok G
 have hfew:=few18_ok p b cs cb G hp hb
 have hp0:=hp
 have hb0:=hb
 obtain⟨A,c,B,d,rfl,hv1,hv2,hI⟩:=hp
 obtain⟨_,_,he,hd,hmd,hB⟩:=id hv2
 cases he
 obtain⟨B2,d2,rfl,-⟩:=hb
 unfold cellT at hp0 hfew ⊢
 unfold cellH at hb0 hfew ⊢
 refine F6.fnS (by simp) (go_of ?_)
 unfold c6
 intros;refine gr 0 0 ?_;(refine sJ c6r0.eq_1 ?_;try with_reducible exact True.intro)
 intros;refine gr 17 18 ?_;(refine sJ c6r1.eq_1 ?_;try with_reducible exact True.intro)
 refine(hlive _ _).mono ?_;rintro _ _ ⟨rfl,rfl⟩;(refine sI ?_;try with_reducible exact True.intro)
 intros;refine gr 18 21 ?_;(refine sJ c6r2.eq_1 ?_;try with_reducible exact True.intro)
 refine(hfew _ _).mono ?_
 rintro r h' ⟨⟨b1,rfl,hb1⟩,rfl⟩
 cases b1 with
 | false =>
  (refine sI ?_;try with_reducible exact True.intro)
  intros;refine gc ?_;(refine sI ?_;try with_reducible exact True.intro)
  intros;refine gr 22 23 ?_;(refine sJ c6r3.eq_1 ?_;try with_reducible exact True.intro)
  intros;refine rV ?_;simp only[push_cast,Nat.reduceBEq]
 | true =>
 have hfw:=hb1 rfl
 have hsm:=hfw.sm
 have hlaw:=app_law (b:=b) hfw
 have hlead:=Lead_ok p _ G hp0 hsm
 (refine sI ?_;try with_reducible exact True.intro)
 intros;refine gc ?_;(refine sI ?_;try with_reducible exact True.intro)
 intros;refine gN ?_
 intros;try refine go_seq ?_
 intros;refine gr 23 28 ?_;(refine sJ c6r4.eq_1 ?_;try with_reducible exact True.intro)
 refine(hlead _ _).mono ?_
 rintro r' h' ⟨G1,rfl,hg1,cs1,rfl,hle1⟩
 have happ:=PAppend_ok p b _ _ G1 (hp0.le hg1) hsm (BE.le hg1 hb0)
 rcases hlaw with⟨e1,e2,e3⟩ | ⟨r,mb,q,l,e1,hrm,hsq,e2,e3,hsl,e4,e5,e6,e7⟩
 ·generalize hlg:(leadP p).1=lg at *
  generalize (leadP p).2=le at *
  obtain⟨A4,c4,rfl,-⟩:=hle1
  have hl0:((appP p b).1.1.reps.length:Int)=0:=by rw[e2];rfl
  have hne:decide ((appP p b).1.2≠0)=true:=decide_eq_true e1
  unfold cellL
  (refine sI ?_;try with_reducible exact True.intro)
  intros;try refine go_seq ?_
  intros;refine gr 28 35 ?_;(refine sJ c6r5.eq_1 ?_;try with_reducible exact True.intro)
  refine(happ _ _).mono ?_
  rintro r' h' ⟨G2,rfl,hg2,cs2,rfl,hpe⟩
  obtain⟨A3,c3,B3,d3,rfl,-⟩:=hpe
  unfold cellT
  rw[e3]
  (refine sI ?_;try with_reducible exact True.intro)
  intros;try refine go_seq ?_
  intros;refine gr 35 36 ?_;(refine sJ2 c6r6.eq_1 @hne ?_;try with_reducible exact True.intro)
  intros;refine gc ?_;(refine sI ?_;try with_reducible exact True.intro)
  intros;refine gr 37 48 ?_;(refine sJ2 c6r7.eq_1 @hl0 ?_;try with_reducible exact True.intro)
  intros;refine rV ?_;simp only[push_cast,Nat.reduceBEq]
 rw[e2]at hle1
 rw[e2]
 rw[e1]at happ
 dsimp only at hle1
 have hle0:=hle1
 obtain⟨A4,c4,rfl,-⟩:=hle1
 have hei:=EndL_i r.log
 have hsr:=hsm.1 r hrm
 unfold cellL at hle0 ⊢
 dsimp only
 (refine sI ?_;try with_reducible exact True.intro)
 intros;try refine go_seq ?_
 intros;refine gr 28 35 ?_;(refine sJ c6r5.eq_1 ?_;try with_reducible exact True.intro)
 refine(happ _ _).mono ?_
 rintro r' h' ⟨G2,rfl,hg2,cs2,rfl,hpe⟩
 dsimp only at hpe ⊢
 have hpe0:=hpe
 obtain⟨A3,c3,B3,d3,rfl,-,hv3,-⟩:=hpe
 have hlead2:=Lead_ok q _ G2 hpe0 hsq
 rw[e3]at hlead2
 unfold cellT at hlead2 ⊢
 rw[e6]at hlead2 ⊢
 (refine sI ?_;try with_reducible exact True.intro)
 intros;try refine go_seq ?_
 intros;refine gr 35 36 ?_;(refine sJ2 c6r6.eq_1 @dn0 ?_;try with_reducible exact True.intro)
 intros;refine gc ?_;(refine sI ?_;try with_reducible exact True.intro)
 intros;refine gN ?_
 intros;try refine go_seq ?_
 intros;refine gr 48 53 ?_;(refine sJ c6r8.eq_1 ?_;try with_reducible exact True.intro)
 refine(hlead2 _ _).mono ?_
 rintro r' h' ⟨G3,rfl,hg3,cs3,rfl,hle3⟩
 dsimp only at hle3 ⊢
 have hle30:=hle3
 obtain⟨A5,c5,rfl,-⟩:=hle3
 unfold cellL at hle30 ⊢
 have hg13:=hg2.trans hg3
 have hend:=CEnd_ok r.log _ G3 (LE.le hg13 hle0) hsr.1 (by have:=hsr.2.1;omega)
 (refine sI ?_;try with_reducible exact True.intro)
 intros;try refine go_seq ?_
 intros;refine gr 53 73 ?_;(refine sJ3 c6r9.eq_1 @dn0 @dnn ?_;try with_reducible exact True.intro)
 (refine sJ @dnn ?_;try with_reducible exact True.intro)
 refine(hend _ _).mono ?_;rintro _ _ ⟨rfl,rfl⟩;(refine sJ @dnn ?_;try with_reducible exact True.intro)
 intros;refine gc ?_;(refine sI ?_;try with_reducible exact True.intro)
 intros;refine gN ?_
 intros;try refine go_seq ?_
 intros;refine gr 74 80 ?_;(refine sJ c6r11.eq_1 ?_;try with_reducible exact True.intro)
 have hb3:=BE.le (hg1.trans hg13) hb0
 have hmv:=rmovedD b (EndL r.log) _ G3 hb3 (by unfold I64;omega)
 rw[e4]at hmv
 refine(hmv _ _).mono ?_
 rintro r' h' ⟨G4,rfl,hg4,cs4,rfl,hbe⟩
 dsimp only at hbe ⊢
 have hbe0:=hbe
 obtain⟨B6,d6,rfl,-⟩:=hbe
 unfold cellH
 (refine sI ?_;try with_reducible exact True.intro)
 intros;try refine go_seq ?_
 intros;refine gr 81 82 ?_;(refine sJ c6r12.eq_1 ?_;try with_reducible exact True.intro)
 intros;try refine go_seq ?_
 have hsr:=hsm.1 r hrm
 have hall:=All_own r.log _ G4 (LE.le (hg13.trans hg4) hle0) hsr.1
 intros;refine gr 83 85 ?_;(refine sJ c6r13.eq_1 ?_;try with_reducible exact True.intro)
 refine(hall _ _).mono ?_
 rintro v h' ⟨G5,L',rfl,hg5,ys,hys,rfl⟩
 have hbe5:BE G5 { mb with epoch:=p.epoch } (cellH { mb with epoch:=p.epoch } (.slice B6 mb.recs.length d6)):=by
  have:=BE.le hg5 hbe0
  obtain⟨B7,d7,he,hb6,i1,i2,i3,i4,i5⟩:=this
  cases he
  exact⟨B6,d6,rfl,hb6,i1,i2,i3,hI.1,i5⟩
 unfold cellH at hbe5
 dsimp only at hbe5
 (refine sI ?_;try with_reducible exact True.intro)
 intros;try refine go_seq ?_
 intros;refine gr 85 89 ?_;(refine sJ c6r14.eq_1 ?_;try with_reducible exact True.intro)
 intro bk hbk
 have hla:(AllL r.log).length≤900000:=by
  unfold AllL
  split
  ·exact reach_all_len (by assumption)
  ·exact Nat.zero_le _
 refine app1 (L1:=[]) (L2:=[_,_,_,_,_,_]) (E:=BE G5) (x:={ mb with epoch:=p.epoch }) rfl hbe5 rfl (by simp[Value.oneCell']) hys (by omega) (by omega) fun A9 c9 zc' hzc'=>?_
 rw[← e5]at hzc' ⊢
 (refine sI ?_;try with_reducible exact True.intro)
 intros
 refine go_ghost (ghost_sub (.cons _ (List.Sublist.refl _))) ?_
 refine go_gx (gx_slv_at [] _ (by decide) hzc') ?_
 rintro h' ⟨G6,rfl,hg6,hv6⟩
 have hgq:Gle G3 G6:=hg4.trans (hg5.trans hg6)
 have hv2:=SlR.le (hg1.trans (hg13.trans hgq)) hv2
 have hv3:=SlR.le (hg3.trans hgq) hv3
 obtain⟨_,_,he,-,-,hB⟩:=id hv2
 cases he
 obtain⟨_,_,he,-,-,hB3⟩:=id hv3
 cases he
 intros;try refine go_seq ?_
 refine go_cut (fun e h=>e 5=.bool true∧e 14=.int .i64 0∧e 15=.slice A9 (AllL l).length c9∧h=⟨G6,[.reg 13 [.int .i64 mb.base,.int .i64 mb.last,.int .i64 mb.src,.int .i64 p.epoch,.int .i64 mb.pid,.int .i64 mb.gen,.int .i64 mb.seq,.bool mb.txn,.int .i64 mb.ctl,.slice B6 mb.recs.length d6],.reg 11 [.int .i64 l.limit,.int .i64 l.start,.slice A5 l.segs.length c5],.reg 8 [.int .i64 q.epoch,.int .i64 q.leader,.int .i64 q.least,.slice A3 q.isr.length c3,.slice B3 p.reps.length d3],.reg 6 [.int .i64 r.log.limit,.int .i64 r.log.start,.slice A4 r.log.segs.length c4],.reg 3 [.int .i64 b.base,.int .i64 b.last,.int .i64 b.src,.int .i64 b.epoch,.int .i64 b.pid,.int .i64 b.gen,.int .i64 b.seq,.bool b.txn,.int .i64 b.ctl,.slice B2 b.recs.length d2],.reg 2 [.int .i64 p.epoch,.int .i64 p.leader,.int .i64 p.least,.slice A p.isr.length c,.slice B p.reps.length d]],[]⟩) ?_ ?_
 ·intros;try refine go_seq ?_
  intros;refine gr 0 0 ?_;(refine sJ c6r15.eq_1 ?_;try with_reducible exact True.intro)
  (intros;try refine go_st ?_)
  refine go_loop (fun e h=>∃ k:Nat,k≤p.reps.length∧e 16=.int .i64 k∧e 5=.bool true∧e 14=.int .i64 0∧e 15=.slice A9 (AllL l).length c9∧h=⟨G6,[.reg 13 [.int .i64 mb.base,.int .i64 mb.last,.int .i64 mb.src,.int .i64 p.epoch,.int .i64 mb.pid,.int .i64 mb.gen,.int .i64 mb.seq,.bool mb.txn,.int .i64 mb.ctl,.slice B6 mb.recs.length d6],.reg 11 [.int .i64 l.limit,.int .i64 l.start,.slice A5 l.segs.length c5],.reg 8 [.int .i64 q.epoch,.int .i64 q.leader,.int .i64 q.least,.slice A3 q.isr.length c3,.slice B3 p.reps.length d3],.reg 6 [.int .i64 r.log.limit,.int .i64 r.log.start,.slice A4 r.log.segs.length c4],.reg 3 [.int .i64 b.base,.int .i64 b.last,.int .i64 b.src,.int .i64 b.epoch,.int .i64 b.pid,.int .i64 b.gen,.int .i64 b.seq,.bool b.txn,.int .i64 b.ctl,.slice B2 b.recs.length d2],.reg 2 [.int .i64 p.epoch,.int .i64 p.leader,.int .i64 p.least,.slice A p.isr.length c,.slice B p.reps.length d]],[]⟩) (fun e h=>p.reps.length - iv (e 16)) ?_ ?_
  ·exact⟨0,Nat.zero_le _,eE,eE,eE,eE,rfl⟩
  rintro e h ⟨k,hk,e16,e5,e14,e15,rfl⟩
  refine go_keep [5,14,15,16] ?_
  (refine sJ4 @e5 @e14 @e15 @e16 ?_;try with_reducible exact True.intro)
  intros;refine gr 89 93 ?_;(refine sJ c6r16.eq_1 ?_;try with_reducible exact True.intro)
  intros;refine gc ?_;(refine sI ?_;try with_reducible exact True.intro)
  refine gb (fun k2=>?_) (fun k2=>?_)
  ·have k2:k < p.reps.length:=by have:=of_decide_eq_true k2;omega
   have hw:=inc_i k d (by omega) hmd
   obtain⟨s,hs⟩:∃ s,p.reps[k]?=some s:=⟨p.reps[k],List.getElem?_eq_getElem (by omega)⟩
   intros;refine gN ?_
   (intros;try refine go_st ?_);refine go_x _ (List.Sublist.refl _) (by decide) ?_;(refine sJ c6r17.eq_1 ?_;try with_reducible exact True.intro)
   refine hB.y_lf (k:=k) (u:=.int .i64 s.id) hs rfl rfl (fun cs h=>by obtain⟨_,_,_,_,rfl,-⟩:=h;rfl) fun a1 ha1=>?_
   (refine sI ?_;try with_reducible exact True.intro)
   refine gx (fun k3=>?_) (fun k3=>?_)
   ·have k3:=of_decide_eq_true k3
    have hs3:=e7 k s hs k3
    (refine sI ?_;try with_reducible exact True.intro)
    refine hB.y_ld hs rfl rfl ?_
    rintro a2 ha2 cs2 hre2
    (refine sI ?_;try with_reducible exact True.intro)
    refine⟨by omega,(hB3.y_ld hs3 rfl rfl ?_).2⟩
    rintro a3 ha3 cs3 hre3
    have hsame:=SameRep_ok s cs2 cs3 G6 hre2 hre3
    obtain⟨A7,c7,B7,d7,rfl,-⟩:=hre2
    obtain⟨A8,c8,B8,d8,rfl,-⟩:=hre3
    unfold cellP at hsame ⊢
    (refine sI ?_;try with_reducible exact True.intro)
    refine(hsame _ _).mono ?_;rintro _ _ ⟨rfl,rfl⟩;(refine sI ?_;try with_reducible exact True.intro)
    intros;refine gc ?_;(refine sI ?_;try with_reducible exact True.intro)
    intros;refine gN ?_
    intros;refine gr 94 96 ?_;(refine sJ2 c6r19.eq_1 @hw ?_;try with_reducible exact True.intro)
    (intros;try refine go_st ?_)
    refine go_l ⟨⟨k+1,by omega,eE,eE,eE,eE,rfl⟩,?_⟩
    (refine sI ?_;try with_reducible exact True.intro)
    omega
   ·(refine sI ?_;try with_reducible exact True.intro)
    intros;refine gc ?_;(refine sI ?_;try with_reducible exact True.intro)
    intros;refine gN ?_
    intros;refine gr 94 96 ?_;(refine sJ2 c6r19.eq_1 @hw ?_;try with_reducible exact True.intro)
    (intros;try refine go_st ?_)
    refine go_l ⟨⟨k+1,by omega,eE,eE,eE,eE,rfl⟩,?_⟩
    (refine sI ?_;try with_reducible exact True.intro)
    omega
  ·have k2:k=p.reps.length:=by have:=of_decide_eq_false k2;omega
   subst k2
   intros;refine gN ?_
   refine go_exit ?_
   (refine sI ?_;try with_reducible exact True.intro)
   exact go_l ⟨eE,eE,eE,rfl⟩
 rintro e h ⟨e5,e14,e15,rfl⟩
 refine go_keep [5,14,15] ?_
 (refine sJ3 @e5 @e14 @e15 ?_;try with_reducible exact True.intro)
 intros
 have hall2:=All_ok l _ G6 (LE.le hgq hle30) hsl
 intros;refine gr 119 130 ?_;(refine sJ c6r20.eq_1 ?_;try with_reducible exact True.intro)
 refine(hall2 _ _).mono ?_
 rintro v2 h' ⟨G7,rfl,hg7,hv7⟩
 have hsa:=SameAll_ok _ _ _ _ G7 hv7 (hv6.le hg7 fun _ _ h=>BE.le (hg6.trans hg7) h)
 rw[dec_eq]at hsa
 (refine sI ?_;try with_reducible exact True.intro)
 refine(hsa _ _).mono ?_;rintro _ _ ⟨rfl,rfl⟩;(refine sI ?_;try with_reducible exact True.intro)
 intros;refine rV ?_;simp only[push_cast,Nat.reduceBEq]
end Go.Proofs.YtpmofpekcbghnaaGreat

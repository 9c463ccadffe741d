/- Parts of a proof, 7 texts in one file. No condition. -/
import Derived.Laws.Strings
import Derived.Test.YtpmofpekcbghnaaGreatM1
import Derived.Test.YtpmofpekcbghnaaGreatM2
import Derived.Test.YtpmofpekcbghnaaGreatM3
set_option linter.unusedSimpArgs false
set_option linter.unusedVariables false
namespace Go.Proofs.YtpmofpekcbghnaaGreat
open Go Go.Kx
open List (getElem?_eq_getElem mem_of_getElem? length_append append_nil take_length)
theorem ky(l:KD):(ig l).length=l.length+4:=by simp[ig,fW]
theorem Gj(v:W32):IntKind.u64.wrap (v.toNat:Int)=(v.toNat:Int):=by
 have:=v.isLt;simp only[IntKind.wrap,IntKind.bits,IntKind.signed];simp;omega
theorem pj(v:W32)(b:Nat)(hb:b≠0):fq .quo (.int .u32 (v.toNat:Int)) (.int .u32 (b:Int))=some (.int .u32 ((v.toNat / b:Nat):Int)):=by
 have h:=v.isLt;exact n8 .u32 v.toNat b hb (by simp[IntKind.max,IntKind.signed,IntKind.bits];omega) rfl
theorem xB(v:W32)(G:Ks):FnO Tryz.prog 186 #[vW v] G [] (fun _ L' r=>o9 (kj v.toNat 4) L' r):=by
 refine F186.fnO (by simp) dS (dY ?_);unfold c186;unfold vW;intros;refine gR 0 0 c186r0.eq_1 ?_;have q1:fq .quo (.int .u32 (v.toNat:Int)) (.int .u32 16777216)=some (.int .u32 ((v.toNat / 16777216:Nat):Int)):=pj v 16777216 (by decide);have q2:fq .quo (.int .u32 (v.toNat:Int)) (.int .u32 65536)=some (.int .u32 ((v.toNat / 65536:Nat):Int)):=pj v 65536 (by decide)
 have q3:fq .quo (.int .u32 (v.toNat:Int)) (.int .u32 256)=some (.int .u32 ((v.toNat / 256:Nat):Int)):=pj v 256 (by decide);have hput:kj v.toNat 4=[UInt8.ofNat (v.toNat / 16777216),UInt8.ofNat (v.toNat / 65536),UInt8.ofNat (v.toNat / 256),UInt8.ofNat v.toNat]:=by
  simp[kj,List.range_succ]
 rw[hput];generalize v.toNat / 16777216=n1 at q1 ⊢;generalize v.toNat / 65536=n2 at q2 ⊢;generalize v.toNat / 256=n3 at q3 ⊢;generalize v.toNat=n4 at *;intros;refine gr 3 15 ?_;refine sJ5 c186r1.eq_1 @q1 @q2 @q3 @oD ?_;intro b hb;intros;refine dT ?_;refine ea (ee _ rfl KJ (dW dS) ?_);exact⟨_,ob [UInt8.ofNat n1,UInt8.ofNat n2,UInt8.ofNat n3,UInt8.ofNat n4],rfl⟩
theorem Eb(l:KD)(v:Value)(G:Ks)(hl:SB G v l)(hb:l.length≤100000):FnO Tryz.prog 202 #[v] G [] (fun _ L' r=>o9 (ig l) L' r):=by
 refine F202.fnO (by simp) dS (dY ?_);unfold c202;have hsum:=BQ l v G hl;unfold ig;generalize zU l=w at hsum ⊢;intros;refine gR 0 0 c202r0.eq_1 ?_;intros;refine gR 3 9 c202r1.eq_1 ?_;refine j5 (.inr ⟨⟨none,rfl⟩,rfl,rfl,rfl,rfl⟩) hl rfl UE1 (by unfold maxLen;omega) fun ys A c hc=>?_
 simp only[Nat.zero_add,List.nil_append];refine sI ?_;refine(hsum _ []).mono ?_;rintro r h' ⟨G1,rfl,hg1,rfl⟩;unfold vW;refine sJ @Gj ?_;refine fx F203.enters (eh [] _ (by decide) hc) ?_;rintro h' ⟨G2,rfl,hg2,hv2⟩;refine(vQ l w.toNat 4 (by have:=w.isLt;omega) (by omega) _ G2 hv2 hb _ []).mono ?_;rintro r h' ⟨G3,L',rfl,hg3,ys3,hys3,rfl⟩;refine sI ?_;intros;refine dT ?_
 refine ea (ee _ rfl KJ (dW dS) ?_);exact⟨ys3,hys3,rfl⟩
theorem z9(l:KD)(v:Value)(G:Ks)(hl:SB G v l)(hb:l.length≤100000):FnO Tryz.prog 164 #[v] G [] (fun _ L' r=>o9 (ig l) L' r):=by
 refine F164.fnO (by simp) dS (dY ?_);unfold c164;have hsum:=ym l v G hl;unfold ig;generalize zU l=w at hsum ⊢;intros;refine gR 0 0 c164r0.eq_1 ?_;intros;refine gR 3 10 c164r1.eq_1 ?_;intro b0 hb0;refine j5 (.inr ⟨⟨_,rfl⟩,rfl,rfl,rfl,rfl⟩) hl rfl UE1 (by unfold maxLen;omega) fun ys A c hc=>?_
 simp only[Nat.zero_add,List.nil_append];refine sI ?_;refine fK (hsum _ _) ?_;refine(wi (by decide) (xB w G) _ []).mono ?_;rintro r h' ⟨G1,rfl,hg1,hv1⟩;refine sI ?_;refine j5 (L1:=[]) (.inl rfl) hv1 rfl UE1 (by rw[fW];unfold maxLen;omega) fun ys' A' c' hc'=>?_
 have hh:=hc.app hc';refine sI ?_;intros;refine dT ?_;refine ea (ee _ rfl KJ (dW dS) ?_);rw[← length_append];exact⟨_,hh,rfl⟩
def fj(b:Batch):KG:=[b.base,b.last - b.base,b.src,b.epoch,b.pid,b.gen,b.seq]
def fe(l:KG):KD:=l.flatMap pvB
def ja(b:Batch):UInt8:=UInt8.ofNat (b.ctl.toNat+if b.txn=true then 4 else 0)
def fX(base stamp:Int)(l:List Rec):KD:=l.flatMap fun r=>prB r base stamp
def iA(b:Batch):KD:=match b.recs with
 | []=>[]
 | r :: rs=>pvB r.stamp++fX b.base r.stamp (r :: rs)
def fR(b:Batch):KD:=fe (fj b)++[ja b]++pvB b.recs.length++iA b
def eu(b:Batch):KD:=kj (ig (fR b)).length 4++ig (fR b)
theorem lF:∀ (l:KG),(fe l).length≤10 * l.length
 | []=>by simp[fe]
 | n :: l=>by
  have:=lF l;have h2:=gF n;simp[fe]at this ⊢;omega
theorem oT{l:KG}{k:Nat}{n:Int}(h:l[k]?=some n):fe (l.take (k+1))=fe (l.take k)++pvB n:=by
 have hk:=List.getElem?_eq_some_iff.1 h;rw[List.take_succ_eq_append_getElem hk.1,hk.2];simp[fe]
theorem oK{base stamp:Int}{l:List Rec}{k:Nat}{r:Rec}(h:l[k]?=some r):fX base stamp (l.take (k+1))=fX base stamp (l.take k)++prB r base stamp:=by
 have hk:=List.getElem?_eq_some_iff.1 h;rw[List.take_succ_eq_append_getElem hk.1,hk.2];simp[fX]
theorem sH{r:Rec}{base stamp:Int}(hk:r.key.size≤64)(hv:r.val.size≤64):(prB r base stamp).length≤169:=by
 have h1:=gF (r.off - base);have h2:=gF (r.stamp - stamp);have h3:=pb r.key;have h4:=pb r.val;simp[prB];omega
theorem tu:∀ (l:List Rec) (last nx:Int),tE last nx l=true→(∀ r∈l,kb r=0)∧nx+l.length≤max nx (last+1)
 | [],last,nx,_=>⟨by simp,by simp;omega⟩
 | r :: l,last,nx,h=>by
  simp only[tE,Bool.and_eq_true,decide_eq_true_eq]at h;obtain⟨⟨⟨h1,h2⟩,h3⟩,h4⟩:=h;obtain⟨h5,h6⟩:=tu l last (r.off+1) h4;refine⟨fun x hx=>?_,?_⟩
  ·rcases List.mem_cons.1 hx with rfl | hx
   ·exact h1
   ·exact h5 x hx
  ·simp;omega
theorem kx{b:Batch}(h:iS b):(∀ r∈b.recs,kb r=0)∧b.recs.length≤16:=by
 rcases h.2.2.2.2.2 with h9 | h9
 ·obtain⟨h1,h2⟩:=tu _ _ _ h9.2;have:=h.2.2.1;exact⟨h1,by omega⟩
 ·rw[h9.2.2.1];exact⟨by simp,by simp⟩
theorem F180:Fun Tryz.prog 180 91 v180 c180 o180:=Fun.mk' Tryz.func180 Tryz.ntmps180 (by kernel_rfl) (by kernel_rfl) s180 q180
theorem Ed{b:Batch}{k:Nat}{n:Int}(h:(fj b)[k]?=some n):xp 7 1 none (.agg #[.int .i64 b.base,.int .i64 (b.last - b.base),.int .i64 b.src,.int .i64 b.epoch,.int .i64 b.pid,.int .i64 b.gen,.int .i64 b.seq]) (.int .i64 (k:Int))=some (.int .i64 n):=by
 have hk:=(List.getElem?_eq_some_iff.1 h).1;simp[fj]at hk
 match k,h with
 | 0,h=>cases h;rfl
 | 1,h=>cases h;rfl
 | 2,h=>cases h;rfl
 | 3,h=>cases h;rfl
 | 4,h=>cases h;rfl
 | 5,h=>cases h;rfl
 | 6,h=>cases h;rfl
theorem J8{n:Int}(h:n=0∨n=1∨n=2):fq .or (.int .u8 (IntKind.u8.wrap n)) (.int .u8 4)=some (.int .u8 ((UInt8.ofNat (n.toNat+4)).toNat:Int)):=by
 rcases h with rfl | rfl | rfl <;> rfl
theorem Bl{n:Int}(h:n=0∨n=1∨n=2):IntKind.u8.wrap n=((UInt8.ofNat n.toNat).toNat:Int):=by
 rcases h with rfl | rfl | rfl <;> rfl
theorem zY(x:Batch)(cs:Kt)(G:Ks)(hx:BE G x cs)(hf:iS x):FnO Tryz.prog 180 #[.agg cs.toArray] G [] (fun _ L' r=>o9 (eu x) L' r):=by
 obtain⟨A,c,rfl,⟨hc,hm,hA⟩,i1,i2,i3,i4,i5,i6,i7,i8⟩:=hx;have hf0:=hf;obtain⟨⟨f1,f2,f3⟩,⟨f4,f5,f6⟩,⟨f7,f8,f9,f10⟩,f11,f12,f13⟩:=hf;simp[rng]at f1 f2 f3 f4 f5 f6;refine F180.fnO (by simp) dS (dY ?_);unfold c180 fu;have w1:IntKind.i64.wrap (x.last - x.base)=x.last - x.base:=by rw[ei] <;> omega
 intros;refine gR 0 0 c180r0.eq_1 ?_;intros;refine gR 0 0 c180r1.eq_1 ?_;intros;refine gR2 13 29 c180r2.eq_1 @w1 ?_;intros;refine dT ?_;refine dU (eA none 5 1) ?_
 refine ej (fun e h=>∃ (k:Nat) (G':Ks) (u:Value) (zc:Kt),(k≤7∧Gle G G'∧Cells UE 1 (fe ((fj x).take k)) zc)∧e 30=.int .i64 k∧e 29=.agg #[.int .i64 x.base,.int .i64 (x.last - x.base),.int .i64 x.src,.int .i64 x.epoch,.int .i64 x.pid,.int .i64 x.gen,.int .i64 x.seq]∧e 3=u∧h.G=G'∧h.D=[]∧[.row u 5 1 (fe ((fj x).take k)).length zc,.reg 1 [.int .i64 x.base,.int .i64 x.last,.int .i64 x.src,.int .i64 x.epoch,.int .i64 x.pid,.int .i64 x.gen,.int .i64 x.seq,.bool x.txn,.int .i64 x.ctl,.slice A x.recs.length c]].Sublist h.L) (fun e h=>7 - iv (e 30)) ?_ ?_
 ·exact⟨0,G,_,[],⟨Nat.zero_le _,.refl _,.nil⟩,eE,eE,eE,rfl,rfl,List.Sublist.refl _⟩
 ·rintro e ⟨G',L,D⟩ ⟨k,G2,u,zc,⟨hk,hgg,hcs⟩,e30,e29,e3,hG,hD,hL⟩;dsimp only at hG hD hL;subst hG hD;refine dU (dX hL) ?_;refine dV [3,29,30] ?_;refine sJ3 @e3 @e29 @e30 ?_;have hhl:=lF ((fj x).take k);have hh7:((fj x).take k).length≤7:=by simp[fj];omega
  intros;refine gR 0 0 c180r3.eq_1 ?_;intros;refine gC ?_;refine gb (fun ht=>?_) (fun ht=>?_)
  ·have hkl:k < 7:=by simp at ht;omega
   have hw3:=eW k 7 (by omega) (by unfold maxLen;omega);obtain⟨n,hn⟩:∃ n,(fj x)[k]?=some n:=⟨(fj x)[k]'(by simp[fj];omega),getElem?_eq_getElem _⟩;have hin:I64 n:=by
    have:=mem_of_getElem? hn;simp[fj]at this;unfold I64 at *;omega
   have hix:=Ed hn;have hsucc:=oT hn
   (repeat first | refine eK ?_ | refine jg ?_)
   intros;refine gR2 32 33 c180r4.eq_1 @hix ?_;intros;refine gR 33 36 c180r5.eq_1 ?_;refine fx F200.enters (eh [] _ (by decide) hcs) ?_;rintro h' ⟨G3,rfl,hg3,hv3⟩;refine(jE _ n hin _ G3 hv3 (by omega) _ []).mono ?_;rintro r h' ⟨G4,L',rfl,hg4,ys,hys,rfl⟩;rw[← hsucc]at hys ⊢;refine sI ?_;intros;refine gR2 36 37 c180r6.eq_1 @hw3 ?_;intros;refine dT ?_
   refine eF ⟨⟨k+1,G4,_,ys,⟨by omega,hgg.trans (hg3.trans hg4),hys⟩,eE,eE,eE,rfl,rfl,List.Sublist.refl _⟩,?_⟩;refine sI ?_;omega
  ·have hkl:k=7:=by simp at ht;omega
   subst hkl;rw[show(fj x).take 7=fj x from rfl]at hcs hhl ⊢;have hmx:=kx hf0;have hh8:(fj x).length=7:=rfl;refine eg ?_;refine sI ?_;intros;refine gR 38 40 c180r7.eq_1 ?_;have hend:∀ (e:Env) (G6:Ks) (u:Value) (zc:Kt),Cells UE 1 (fR x) zc→(fR x).length≤5000→e 3=u →
     go none Tryz.prog 91 v180.1 v180.2 (fI o180 fun v h=>o9 (eu x) h.L v) [Td.s ((SC.reg false c180r20).seq ((SC.reg false c180r21).seq SC.ret))] e ⟨G6,[.row u 5 1 (fR x).length zc,.reg 1 [.int .i64 x.base,.int .i64 x.last,.int .i64 x.src,.int .i64 x.epoch,.int .i64 x.pid,.int .i64 x.gen,.int .i64 x.seq,.bool x.txn,.int .i64 x.ctl,.slice A x.recs.length c]],[]⟩:=fun e G6 u zc hzc hbl e3=>by
    refine dV [3] ?_;refine sJ @e3 ?_;intros;refine gR 83 85 c180r20.eq_1 ?_;refine fx F202.enters (eh [] _ (by decide) hzc) ?_;rintro h' ⟨G7,rfl,hg7,hv7⟩;refine(Eb _ _ G7 hv7 (by omega) _ []).mono ?_;rintro r h' ⟨G8,L',rfl,hg8,ys,hys,rfl⟩;refine sI ?_;intro _;have hsl:=ky (fR x);refine eI (eh [] _ (by decide) hys) ?_;rintro h' ⟨G9,rfl,hg9,hv9⟩;obtain⟨As,cs',rfl,-,-,-⟩:=id hv9
    have hwl:IntKind.u64.wrap ((ig (fR x)).length:Int)=((ig (fR x)).length:Int):=by rw[IntKind.wrap_u64];omega
    intros;refine gR2 85 91 c180r21.eq_1 @hwl ?_;refine(vQ [] (ig (fR x)).length 4 (by omega) (by omega) _ G9 SB.nil (by simp) _ []).mono ?_;rintro r h' ⟨G10,L',rfl,hg10,ys2,hys2,rfl⟩;simp only[List.nil_append]at hys2 ⊢;refine sI ?_;refine j5 (L1:=[]) (.inl rfl) (SB.le hv9 hg10) rfl UE1 (by rw[fW];unfold maxLen;omega) fun ys' A' c' hc'=>?_
    have hh:=hys2.app hc';refine sI ?_;intros;refine dT ?_;refine ea (ee _ rfl (.cons_cons _ KL) (dW dS) ?_);rw[← length_append];exact⟨_,hh,rfl⟩
   have hrest:∀ (e:Env),e 3=u→e 6=.int .u8 ((ja x).toNat:Int) →
     go none Tryz.prog 91 v180.1 v180.2 (fI o180 fun v h=>o9 (eu x) h.L v) [Td.s ((SC.rgX c180r10).seq (((SC.reg false c180r11).seq (SC.cond (O.t 55) ((SC.reg false c180r12).seq ((SC.reg false c180r13).seq ((SC.reg false c180r14).seq (SC.blk 2 ((SC.reg false c180r15).seq ((SC.cond (O.t 68) SC.skip (SC.exit 2)).seq ((SC.blk 3 ((SC.reg false c180r16).seq ((SC.reg false c180r17).seq (SC.reg false c180r18)))).seq (SC.reg false c180r19)))).loop)))) SC.skip)).seq ((SC.reg false c180r20).seq ((SC.reg false c180r21).seq SC.ret))))] e ⟨G',[.row u 5 1 (fe (fj x)).length zc,.reg 1 [.int .i64 x.base,.int .i64 x.last,.int .i64 x.src,.int .i64 x.epoch,.int .i64 x.pid,.int .i64 x.gen,.int .i64 x.seq,.bool x.txn,.int .i64 x.ctl,.slice A x.recs.length c]],[]⟩:=fun e e3 e6=>by
    refine dV [3,6] ?_;refine sJ2 @e3 @e6 ?_;intros;refine dT ?_;refine lk _ (.cons _ KJ) (by decide) ?_;refine sJ c180r10.eq_1 ?_;intro bk hbk;refine⟨ef KO (.cons _ (.cons _ KJ)),?_⟩;refine sI ?_;refine yN (L1:=[]) (L2:=[_]) (x:=ja x) rfl rfl hcs (by omega) fun A' c' zc' hzc=>?_
    refine sI ?_;refine⟨ef KO (.cons _ (.cons _ KJ)),?_⟩;refine sI ?_;refine fx F200.enters (eh [_] _ (by decide) hzc) ?_;rintro h' ⟨G4,rfl,hg4,hv4⟩;refine(jE _ x.recs.length (by unfold I64;omega) _ G4 hv4 (by simp;omega) _ []).mono ?_;rintro r h' ⟨G5,L',rfl,hg5,ys5,hys5,rfl⟩;refine⟨ef (hg4.trans hg5) (.cons _ (.cons _ KJ)),?_⟩;refine sI ?_;have hpl:=gF x.recs.length
    (repeat first | (with_reducible intro _) | refine ed ?_)
    refine dU (dX (L':=[.row r 5 1 (fe (fj x)++[ja x]++pvB x.recs.length).length ys5,.reg 1 [.int .i64 x.base,.int .i64 x.last,.int .i64 x.src,.int .i64 x.epoch,.int .i64 x.pid,.int .i64 x.gen,.int .i64 x.seq,.bool x.txn,.int .i64 x.ctl,.slice A x.recs.length c]]) ?hsub) ?_
    case hsub=>exact .cons_cons _ (.cons _ KJ)
    intros;refine gR 53 55 c180r11.eq_1 ?_;intros;refine gC ?_;refine gb (fun k1=>?_) (fun k1=>?_)
    ·have hpos:0 < x.recs.length:=by simpa using k1
     obtain⟨r0,h0⟩:∃ r0,x.recs[0]?=some r0:=⟨x.recs[0],getElem?_eq_getElem hpos⟩;have hg5:=hgg.trans (hg4.trans hg5);have hA5:=hA.le hg5 (E':=RR) KO;intros;refine gR 57 61 c180r12.eq_1 ?_;refine hA5.x_lf h0 rfl rfl (fun cs h=>by rw[h.1];rfl) fun a ha=>?_
     refine sI ?_;have hck0:=hmx.1 r0 (mem_of_getElem? h0);obtain⟨⟨-,q0⟩,-,-⟩:=fQ hck0;have q0':=q0;simp[inO]at q0';have hst:I64 r0.stamp:=by unfold I64;omega
     intros;refine gR 61 64 c180r13.eq_1 ?_;refine fx F200.enters (eh [] _ (by decide) hys5) ?_;rintro h' ⟨G6,rfl,hg6,hv6⟩;refine(jE _ r0.stamp hst _ G6 hv6 (by simp;omega) _ []).mono ?_;rintro r h' ⟨G7,L',rfl,hg7,ys7,hys7,rfl⟩;have hp7:=gF r0.stamp;refine sI ?_;have hA7:=hA5.le (hg6.trans hg7) (E':=RR) KO;have hst0:iA x=pvB r0.stamp++fX x.base r0.stamp x.recs:=by
      match hr:x.recs,h0 with
      | r :: rs,h0=>simp[hr]at h0;subst h0;rw[iA,hr]
     generalize hP:fe (fj x)++[ja x]++pvB x.recs.length++pvB r0.stamp=P at hys7 ⊢;have hPl:P.length≤100:=by rw[← hP];simp;omega
     intros;refine gR 0 0 c180r14.eq_1 ?_;intros;refine dT ?_
     refine ej (fun e h=>∃ (k:Nat) (G':Ks) (u:Value) (zc:Kt),(k≤x.recs.length∧Gle G7 G'∧Cells UE 1 (P++fX x.base r0.stamp (x.recs.take k)) zc∧(fX x.base r0.stamp (x.recs.take k)).length≤169 * k)∧e 67=.int .i64 k∧e 66=.int .i64 x.recs.length∧e 65=.slice A x.recs.length c∧e 7=.int .i64 r0.stamp∧e 3=u∧h.G=G'∧h.D=[]∧[.row u 5 1 (P++fX x.base r0.stamp (x.recs.take k)).length zc,.reg 1 [.int .i64 x.base,.int .i64 x.last,.int .i64 x.src,.int .i64 x.epoch,.int .i64 x.pid,.int .i64 x.gen,.int .i64 x.seq,.bool x.txn,.int .i64 x.ctl,.slice A x.recs.length c]].Sublist h.L) (fun e h=>x.recs.length - iv (e 67)) ?_ ?_
     ·exact⟨0,G7,r,ys7,⟨Nat.zero_le _,.refl _,by simpa [fX]using hys7,by simp[fX]⟩,eE,eE,eE,eE,eE,rfl,rfl,by simp[fX]⟩
     ·rintro e ⟨G',L,D⟩ ⟨k,G2,u,zc,⟨hk,hgg,hcs,hrl⟩,e67,e66,e65,e7,e3,hG,hD,hL⟩;dsimp only at hG hD hL;subst hG hD;refine dU (dX hL) ?_;refine dV [3,7,65,66,67] ?_;refine sJ5 @e3 @e7 @e65 @e66 @e67 ?_;intros;refine gR 0 0 c180r15.eq_1 ?_;intros;refine gC ?_;refine gb (fun ht=>?_) (fun ht=>?_)
      ·have hkl:k < x.recs.length:=by simpa using ht
       have hw3:=eW k c (by omega) hm;obtain⟨r,hr⟩:∃ r,x.recs[k]?=some r:=⟨x.recs[k],getElem?_eq_getElem (by omega)⟩;have hsucc:=oK (base:=x.base) (stamp:=r0.stamp) hr;have hckr:=hmx.1 r (mem_of_getElem? hr);have hcs':=fQ hckr;have hpl:=sH (base:=x.base) (stamp:=r0.stamp) hcs'.2.1 hcs'.2.2;have hput:ot r x.base r0.stamp=(prB r x.base r0.stamp,0):=by
        rw[ot,if_neg (by simp[hckr]),if_neg (by simp[inO,f1,q0'])]
       have hAk:=hA7.le hgg (E':=RR) KO;intros;refine gN ?_;intros;refine gR 69 71 c180r16.eq_1 ?_;refine hAk.x_ld hr rfl rfl ?_;rintro a1 ha1 cs ⟨rfl,-⟩;have hPut:=Gk r x.base r0.stamp;unfold gT at hPut ⊢;refine sI ?_;intros;refine gR 71 79 c180r17.eq_1 ?_;refine(hPut G' _ []).mono ?_;rintro v h' ⟨G8,L',rfl,hg8,w,rfl,ys8,hys8,rfl⟩;rw[hput]at hys8 ⊢;refine sI ?_;intro _
       refine eI (eh [] _ (by decide) hys8) ?_;rintro h' ⟨G9,rfl,hg9,hv9⟩;intros;refine gR 79 82 c180r18.eq_1 ?_;refine j5 (L1:=[_]) (.inl rfl) hv9 rfl UE1 (by simp;unfold maxLen;omega) fun ys' A' c' hc'=>?_
       have hh:=hcs.app hc';rw[List.append_assoc,← hsucc]at hh;rw[← length_append,List.append_assoc,← hsucc];refine sI ?_;intros;refine gR2 82 83 c180r19.eq_1 @hw3 ?_;intros;refine dT ?_;refine eF ⟨⟨k+1,G9,_,_,⟨by omega,hgg.trans (hg8.trans hg9),hh,by rw[hsucc,length_append];omega⟩,eE,eE,eE,eE,eE,rfl,rfl,.cons _ KJ⟩,?_⟩;refine sI ?_;omega
      ·have hkl:k=x.recs.length:=by simp at ht;omega
       subst hkl;rw[take_length]at hcs hrl;have hbody:fR x=P++fX x.base r0.stamp x.recs:=by rw[fR,hst0,← hP];simp
       refine eg ?_;refine sI ?_;rw[take_length,← hbody];rw[← hbody]at hcs;refine hend _ G' _ zc hcs (by rw[hbody];simp;omega) ?_
       (refine sI ?_;try with_reducible exact True.intro)
    ·have hnil:x.recs=[]:=by have:=KN k1;exact List.eq_nil_of_length_eq_zero (by omega)
     have htl:iA x=[]:=by rw[iA,hnil]
     have hbody:fR x=fe (fj x)++[ja x]++pvB x.recs.length:=by rw[fR,htl,append_nil]
     rw[← hbody]at hys5 ⊢
     (repeat first | refine eK ?_ | refine jg ?_)
     refine hend _ G5 _ ys5 hys5 (by rw[hbody];simp;omega) ?_
     (refine sI ?_;try with_reducible exact True.intro)
   have hctl:x.ctl=0∨x.ctl=1∨x.ctl=2:=by
    rcases f13 with h | h
    ·exact .inl h.1
    ·exact .inr h.1
   intros;refine gR 0 0 c180r8.eq_1 ?_;intros;refine gC ?_;refine gb (fun k1=>?_) (fun k1=>?_)
   ·have hm4:=J8 hctl;intros;refine gR2 42 44 c180r9.eq_1 @hm4 ?_;intro _
    (repeat first | refine eK ?_ | refine jg ?_)
    refine hrest _ ?_ ?_ <;> (refine sI ?_;try with_reducible exact True.intro);rw[ja,if_pos k1]
   ·(repeat first | refine eK ?_ | refine jg ?_)
    refine hrest _ ?_ ?_ <;> (refine sI ?_;try with_reducible exact True.intro);rw[ja,if_neg (by rw[k1];simp),Bl hctl];rfl
theorem F128:Fun Tryz.prog 128 91 v128 c128 o128:=Fun.mkA Tryz.func128 Tryz.ntmps128
theorem pQ:∀ (l:KG),(∀ x∈l,I64 x)→Cells IE 1 l (l.map fun n=>.int .i64 n)
 | [],_=>.nil
 | n :: l,h=>.cons (cs:=[.int .i64 n]) ⟨rfl,h n (.head _)⟩ rfl (pQ l fun x hx=>h x (.tail _ hx))
theorem F3{n:Int}(h:n=0∨n=1∨n=2):IntKind.u8.wrap (IntKind.i64.wrap (n+4))=((UInt8.ofNat (n.toNat+4)).toNat:Int):=by
 rcases h with rfl | rfl | rfl <;> rfl
def lx(x:Batch)(k:Nat):KD:=iA { x with recs:=x.recs.take k }
theorem pR(x:Batch):lx x 0=[]:=by simp[lx,iA]
theorem yJ(x:Batch):lx x x.recs.length=iA x:=by simp[lx]
theorem rD{x:Batch}{k:Nat}{r0:Rec}(h0:x.recs[0]?=some r0)(hk:0 < k):lx x k=pvB r0.stamp++fX x.base r0.stamp (x.recs.take k):=by
 match hr:x.recs,h0 with
 | r :: rs,h0 =>
  simp at h0;subst h0;obtain⟨k,rfl⟩:∃ j,k=j+1:=⟨k - 1,by omega⟩;simp[lx,iA,hr]
theorem uv{x:Batch}{k:Nat}{r r0:Rec}(h0:x.recs[0]?=some r0)(hr:x.recs[k]?=some r):lx x (k+1)=lx x k++(if k=0 then pvB r0.stamp else[])++prB r x.base r0.stamp:=by
 rw[rD h0 (by omega),oK hr];by_cases hk:k=0
 ·subst hk;simp[pR,fX]
 ·rw[rD h0 (by omega),if_neg hk];simp
theorem AD(x:Batch)(cs:Kt)(G:Ks)(hx:BE G x cs)(hf:iS x):FnO Tryz.prog 128 #[.agg cs.toArray] G [] (fun _ L' r=>o9 (eu x) L' r):=by
 obtain⟨A,c,rfl,⟨hc,hm,hA⟩,i1,i2,i3,i4,i5,i6,i7,i8⟩:=hx;have hf0:=hf;obtain⟨⟨f1,f2,f3⟩,⟨f4,f5,f6⟩,⟨f7,f8,f9,f10⟩,f11,f12,f13⟩:=hf;simp[rng]at f1 f2 f3 f4 f5 f6;refine F128.fnO (by simp) dS (dY ?_);unfold c128 fu;have w1:IntKind.i64.wrap (x.last - x.base)=x.last - x.base:=by rw[ei] <;> omega
 have hin:∀ n∈fj x,I64 n:=by
  intro n hn;simp[fj]at hn;unfold I64 at *;omega
 intros;refine gR 0 0 c128r0.eq_1 ?_;intros;refine gR 0 0 c128r1.eq_1 ?_;intros;refine gR2 12 28 c128r2.eq_1 @w1 ?_;intro b0 hb0;refine sI ?_;intros;refine dT ?_;refine eI (eh [] _ (by decide) (pQ _ hin)) ?_;rintro h' ⟨G1,rfl,hg1,A7,c7,hA7e,hl7,hm7,hA7⟩;cases hA7e;refine dU (eA none 5 1) ?_
 refine ej (fun e h=>∃ (k:Nat) (G':Ks) (u:Value) (zc:Kt),(k≤7∧Gle G1 G'∧Cells UE 1 (fe ((fj x).take k)) zc)∧e 30=.int .i64 k∧e 29=.int .i64 7∧e 28=.slice (some ⟨b0,0,none⟩) 7 7∧e 3=u∧h.G=G'∧h.D=[]∧[.row u 5 1 (fe ((fj x).take k)).length zc,.reg 1 [.int .i64 x.base,.int .i64 x.last,.int .i64 x.src,.int .i64 x.epoch,.int .i64 x.pid,.int .i64 x.gen,.int .i64 x.seq,.bool x.txn,.int .i64 x.ctl,.slice A x.recs.length c]].Sublist h.L) (fun e h=>7 - iv (e 30)) ?_ ?_
 ·exact⟨0,G1,_,[],⟨Nat.zero_le _,.refl _,.nil⟩,eE,by refine sI ?_;rfl,eE,eE,rfl,rfl,List.Sublist.refl _⟩
 ·rintro e ⟨G',L,D⟩ ⟨k,G2,u,zc,⟨hk,hgg,hcs⟩,e30,e29,e28,e3,hG,hD,hL⟩;dsimp only at hG hD hL;subst hG hD;refine dU (dX hL) ?_;refine dV [3,28,29,30] ?_;refine sJ4 @e3 @e28 @e29 @e30 ?_;have hhl:=lF ((fj x).take k);have hh7:((fj x).take k).length≤7:=by simp[fj];omega
  intros;refine gR 0 0 c128r3.eq_1 ?_;intros;refine gC ?_;refine gb (fun ht=>?_) (fun ht=>?_)
  ·have hkl:k < 7:=by simp at ht;omega
   have hw3:=eW k 7 (by omega) (by unfold maxLen;omega);obtain⟨n,hn⟩:∃ n,(fj x)[k]?=some n:=⟨(fj x)[k]'(by simp[fj];omega),getElem?_eq_getElem _⟩;have hsucc:=oT hn;have hA7':=hA7.le hgg (E':=IE) KO;intros;refine gN ?_;intros;refine gR 32 34 c128r4.eq_1 ?_;refine hA7'.x_l1 hn rfl rfl ?_;rintro a1 ha1 v ⟨hv,hni⟩;cases hv;refine sI ?_;intros;refine gR 34 37 c128r5.eq_1 ?_
   refine fx F162.enters (eh [] _ (by decide) hcs) ?_;rintro h' ⟨G3,rfl,hg3,hv3⟩;refine(iN _ n hni _ G3 hv3 (by omega) _ []).mono ?_;rintro r h' ⟨G4,L',rfl,hg4,ys,hys,rfl⟩;rw[← hsucc]at hys ⊢;refine sI ?_;intros;refine gR2 37 38 c128r6.eq_1 @hw3 ?_;intros;refine dT ?_;refine eF ⟨⟨k+1,G4,_,ys,⟨by omega,hgg.trans (hg3.trans hg4),hys⟩,eE,eE,eE,eE,rfl,rfl,List.Sublist.refl _⟩,?_⟩;refine sI ?_;omega
  ·have hkl:k=7:=by simp at ht;omega
   subst hkl;rw[show(fj x).take 7=fj x from rfl]at hcs hhl ⊢;have hmx:=kx hf0;have hh8:(fj x).length=7:=rfl;have hgg':=hg1.trans hgg;refine eg ?_;refine sI ?_;intros;refine gR 39 40 c128r7.eq_1 ?_;intros;try refine ed ?_
   have hctl:x.ctl=0∨x.ctl=1∨x.ctl=2:=by
    rcases f13 with h | h
    ·exact .inl h.1
    ·exact .inr h.1
   refine eL (fun e h=>∃ n:Int,e 3=u∧e 6=.int .i64 n∧IntKind.u8.wrap n=((ja x).toNat:Int)∧h=⟨G',[.row u 5 1 (fe (fj x)).length zc,.reg 1 [.int .i64 x.base,.int .i64 x.last,.int .i64 x.src,.int .i64 x.epoch,.int .i64 x.pid,.int .i64 x.gen,.int .i64 x.seq,.bool x.txn,.int .i64 x.ctl,.slice A x.recs.length c]],[]⟩) ?_ ?_
   ·intros;refine gR 0 0 c128r8.eq_1 ?_;intros;refine gC ?_;refine gb (fun k1=>?_) (fun k1=>?_)
    ·intros;refine gR 42 44 c128r9.eq_1 ?_;intros;refine dT ?_;refine eF ⟨IntKind.i64.wrap (x.ctl+4),eE,eE,?_,rfl⟩;rw[F3 hctl,ja,if_pos k1]
    ·intros;refine dT ?_;refine eF ⟨x.ctl,eE,eE,?_,rfl⟩;rw[Bl hctl,ja,if_neg (by rw[k1];simp)];rfl
   rintro e h ⟨nm,e3,e6,hnm,rfl⟩;refine dV [3,6] ?_;refine sJ2 @e3 @e6 ?_;intros;refine dT ?_;refine lk _ (.cons _ KJ) (by decide) ?_;refine sJ2 c128r10.eq_1 @hnm ?_;intro bk hbk;refine⟨ef KO (.cons _ (.cons _ KJ)),?_⟩;refine sI ?_;refine yN (L1:=[]) (L2:=[_]) (x:=ja x) rfl rfl hcs (by omega) fun A' c' zc' hzc=>?_
   refine sI ?_;refine⟨ef KO (.cons _ (.cons _ KJ)),?_⟩;refine sI ?_;refine fx F162.enters (eh [_] _ (by decide) hzc) ?_;rintro h' ⟨G4,rfl,hg4,hv4⟩;refine(iN _ x.recs.length (by unfold I64;omega) _ G4 hv4 (by simp;omega) _ []).mono ?_;rintro r h' ⟨G5,L',rfl,hg5,ys5,hys5,rfl⟩;refine⟨ef (hg4.trans hg5) (.cons _ (.cons _ KJ)),?_⟩;refine sI ?_;have hpl:=gF x.recs.length
   (repeat first | (with_reducible intro _) | refine ed ?_)
   refine dU (dX (L':=[.row r 5 1 (fe (fj x)++[ja x]++pvB x.recs.length).length ys5,.reg 1 [.int .i64 x.base,.int .i64 x.last,.int .i64 x.src,.int .i64 x.epoch,.int .i64 x.pid,.int .i64 x.gen,.int .i64 x.seq,.bool x.txn,.int .i64 x.ctl,.slice A x.recs.length c]]) (.cons_cons _ (.cons _ KJ))) ?_;generalize hP:fe (fj x)++[ja x]++pvB x.recs.length=P at hys5 ⊢
   have hPl:P.length≤90:=by rw[← hP];simp;omega
   have hA5:=hA.le (hgg'.trans (hg4.trans hg5)) (E':=RR) KO;intros;refine gR 0 0 c128r11.eq_1 ?_;intros;refine dT ?_
   refine ej (fun e h=>∃ (k:Nat) (G':Ks) (u:Value) (zc zs:Kt),(k≤x.recs.length∧Gle G5 G'∧Cells UE 1 (P++lx x k) zc∧(lx x k).length≤179 * k)∧e 56=.int .i64 k∧e 55=.int .i64 x.recs.length∧e 54=.slice A x.recs.length c∧e 3=u∧h.G=G'∧h.D=[]∧[.row u 5 1 (P++lx x k).length zc,.reg 1 [.int .i64 x.base,.int .i64 x.last,.int .i64 x.src,.int .i64 x.epoch,.int .i64 x.pid,.int .i64 x.gen,.int .i64 x.seq,.bool x.txn,.int .i64 x.ctl,.slice A x.recs.length c]].Sublist h.L) (fun e h=>x.recs.length - iv (e 56)) ?_ ?_
   ·exact⟨0,G5,r,ys5,[],⟨Nat.zero_le _,.refl _,by simpa [pR]using hys5,by simp[pR]⟩,eE,eE,eE,eE,rfl,rfl,by simp[pR]⟩
   ·rintro e ⟨G'',L,D⟩ ⟨k,G2,u2,zc2,-,⟨hk,hgg2,hcs2,hrl⟩,e56,e55,e54,e3,hG,hD,hL⟩;dsimp only at hG hD hL;subst hG hD;refine dU (dX hL) ?_;refine dV [3,54,55,56] ?_;refine sJ4 @e3 @e54 @e55 @e56 ?_;intros;refine gR 0 0 c128r12.eq_1 ?_;intros;refine gC ?_;refine gb (fun ht=>?_) (fun ht=>?_)
    ·have hkl:k < x.recs.length:=by simpa using ht
     have hw3:=eW k c (by omega) hm;obtain⟨r,hr⟩:∃ r,x.recs[k]?=some r:=⟨x.recs[k],getElem?_eq_getElem (by omega)⟩;obtain⟨r0,h0⟩:∃ r,x.recs[0]?=some r:=⟨x.recs[0],getElem?_eq_getElem (by omega)⟩;have hsucc:=uv h0 hr;have hck0:=hmx.1 r0 (mem_of_getElem? h0);obtain⟨⟨-,q0⟩,-,-⟩:=fQ hck0;simp[inO]at q0;have hst:I64 r0.stamp:=by unfold I64;omega
     have hpst:=gF r0.stamp;have hckr:=hmx.1 r (mem_of_getElem? hr);have hcs':=fQ hckr;have hplr:=sH (base:=x.base) (stamp:=r0.stamp) hcs'.2.1 hcs'.2.2;have hput:ot r x.base r0.stamp=(prB r x.base r0.stamp,0):=by
      rw[ot,if_neg (by simp[hckr]),if_neg (by simp[inO,f1,q0])]
     have hAk:=hA5.le hgg2 (E':=RR) KO;intros;refine gN ?_;intros;refine gR 58 61 c128r13.eq_1 ?_;refine hAk.x_ld hr rfl rfl ?_;rintro a1 ha1 cs ⟨rfl,-⟩;have hPut:=Df r x.base r0.stamp;unfold gT at hPut ⊢;refine sI ?_;intros;try refine ed ?_
     refine dU (eO (.swap _ _ _)) ?_;refine eL (fun e h=>∃ (u:Value) (zc:Kt) (G3:Ks),e 56=.int .i64 k∧e 55=.int .i64 x.recs.length∧e 54=.slice A x.recs.length c∧e 3=u∧Cells UE 1 (P++lx x k++(if k=0 then pvB r0.stamp else[])) zc∧Gle G'' G3 ∧
      h=⟨G3,[.row u 5 1 (P++lx x k++(if k=0 then pvB r0.stamp else[])).length zc,.reg 8 [.int .i64 r.off,.string r.key,.string r.val,.bool r.dead,.int .i64 r.stamp],.reg 1 [.int .i64 x.base,.int .i64 x.last,.int .i64 x.src,.int .i64 x.epoch,.int .i64 x.pid,.int .i64 x.gen,.int .i64 x.seq,.bool x.txn,.int .i64 x.ctl,.slice A x.recs.length c]],[]⟩) ?_ ?_
     ·intros;refine gR 61 62 c128r14.eq_1 ?_;intros;refine gC ?_;refine gb (fun k1=>?_) (fun k1=>?_)
      ·have hk0:k=0:=by simpa using k1
       subst hk0;obtain rfl:r=r0:=by rw[h0]at hr;cases hr;rfl
       intros;refine gR 63 67 c128r15.eq_1 ?_;refine fx F162.enters (eh [] _ (by decide) hcs2) ?_;rintro h' ⟨G6,rfl,hg6,hv6⟩;refine(iN _ r.stamp hst _ G6 hv6 (by simp;omega) _ []).mono ?_;rintro r h' ⟨G7,L',rfl,hg7,ys7,hys7,rfl⟩;refine sI ?_;intros;refine dT ?_;exact eF ⟨_,ys7,G7,eE,eE,eE,eE,hys7,hg6.trans hg7,rfl⟩
      ·have hk0:¬ k=0:=by simpa using k1
       rw[if_neg hk0,append_nil];intros;refine dT ?_;exact eF ⟨_,zc2,G'',eE,eE,eE,eE,hcs2,.refl _,rfl⟩
     rintro e h ⟨u3,zc3,G3,e56,e55,e54,e3,hcs3,hg3,rfl⟩;refine dV [3,54,55,56] ?_;refine sJ4 @e3 @e54 @e55 @e56 ?_;have hA3:=hAk.le hg3 (E':=RR) KO;intros;refine dT ?_;refine lk _ (.cons _ KJ) (by decide) ?_;refine sJ c128r16.eq_1 ?_;refine hA3.y_lf h0 rfl rfl (fun cs h=>by rw[h.1];rfl) fun a ha=>?_
     refine sI ?_;refine(hPut G3 _ []).mono ?_;rintro v h' ⟨G8,L',rfl,hg8,w,rfl,ys8,hys8,rfl⟩;rw[hput]at hys8 ⊢;refine⟨ef hg8 (.cons _ (.cons _ KJ)),?_⟩;refine sI ?_
     (repeat first | (with_reducible intro _) | refine ed ?_)
     refine eI (eh [] _ (by decide) hys8) ?_;rintro h' ⟨G9,rfl,hg9,hv9⟩;intros;refine gR 79 82 c128r17.eq_1 ?_;refine j5 (L1:=[]) (.inl rfl) hv9 rfl UE1 (by simp;unfold maxLen;split <;> simp <;> omega) fun ys' A' c' hc'=>?_
     have hh:=hcs3.app hc';have hassoc:P++lx x k++(if k=0 then pvB r0.stamp else[])++prB r x.base r0.stamp=P++lx x (k+1):=by rw[hsucc];simp
     rw[hassoc]at hh;rw[← length_append,hassoc];refine sI ?_;intros;refine gR2 82 83 c128r18.eq_1 @hw3 ?_;intros;refine dT ?_;refine eF ⟨⟨k+1,G9,_,_,[],⟨by omega,hgg2.trans (hg3.trans (hg8.trans hg9)),hh,by rw[hsucc];simp only[length_append];split <;> (try simp only[List.length_nil]) <;> omega⟩,eE,eE,eE,eE,rfl,rfl,.cons_cons _ (.cons _ KJ)⟩,?_⟩;refine sI ?_;omega
    ·have hkl:k=x.recs.length:=by simp at ht;omega
     subst hkl;rw[yJ]at hcs2 hrl;have hbody:fR x=P++iA x:=by rw[fR,← hP]
     refine eg ?_;refine sI ?_;rw[yJ,← hbody];rw[← hbody]at hcs2;have hbl:(fR x).length≤5000:=by rw[hbody];simp;omega
     intros;refine gR 83 85 c128r19.eq_1 ?_;refine fx F164.enters (eh [] _ (by decide) hcs2) ?_;rintro h' ⟨G7,rfl,hg7,hv7⟩;refine(z9 _ _ G7 hv7 (by omega) _ []).mono ?_;rintro r h' ⟨G8,L',rfl,hg8,ys,hys,rfl⟩;refine sI ?_;intro _;have hsl:=ky (fR x);refine eI (eh [] _ (by decide) hys) ?_;rintro h' ⟨G9,rfl,hg9,hv9⟩;obtain⟨As,cs',rfl,-,-,-⟩:=id hv9
     have hwl:IntKind.u64.wrap ((ig (fR x)).length:Int)=((ig (fR x)).length:Int):=by rw[IntKind.wrap_u64];omega
     intros;refine gR2 85 91 c128r20.eq_1 @hwl ?_;refine(y7 [] (ig (fR x)).length 4 (by omega) (by omega) _ G9 SB.nil (by simp) _ []).mono ?_;rintro r h' ⟨G10,L',rfl,hg10,ys2,hys2,rfl⟩;simp only[List.nil_append]at hys2 ⊢;refine sI ?_;refine j5 (L1:=[]) (.inl rfl) (SB.le hv9 hg10) rfl UE1 (by rw[fW];unfold maxLen;omega) fun ys' A' c' hc'=>?_
     have hh:=hys2.app hc';refine sI ?_;intros;refine dT ?_;refine ea (ee _ rfl (.cons_cons _ KL) (dW dS) ?_);rw[← length_append];exact⟨_,hh,rfl⟩
theorem F154:Fun Tryz.prog 154 14 v154 c154 o154:=Fun.mkA Tryz.func154 Tryz.ntmps154
theorem F118:Fun Tryz.prog 118 11 v118 c118 o118:=Fun.mkA Tryz.func118 Tryz.ntmps118
theorem F73:Fun Tryz.prog 73 10 v73 c73 o73:=Fun.mkA Tryz.func73 Tryz.ntmps73
theorem F120:Fun Tryz.prog 120 12 v120 c120 o120:=Fun.mkA Tryz.func120 Tryz.ntmps120
def fM(b:Batch):Int:=if iS b then(if (eu b).length≤2048 then 0 else 2)else 1
def Eu(b:Batch):KD × Int:=if fM b=0 then(eu b,0)else([],fM b)
def Dp(b:Batch):Nat:=(Eu b).1.length
theorem xc{b:Batch}(h:¬ iS b):fM b=1:=if_neg h
theorem By{b:Batch}(h:iS b)(h2:¬ (eu b).length≤2048):fM b=2:=by rw[fM,if_pos h,if_neg h2]
theorem BK{b:Batch}(h:iS b)(h2:(eu b).length≤2048):fM b=0:=by rw[fM,if_pos h,if_pos h2]
theorem vK{b:Batch}(h:fM b=0):Eu b=(eu b,0):=if_pos h
theorem vV{b:Batch}(h:¬ fM b=0):Eu b=([],fM b):=if_neg h
theorem ir{b:Batch}(h:fM b=0):iS b∧(eu b).length≤2048:=by
 unfold fM at h;split at h
 ·rename_i h1;split at h
  ·rename_i h2;exact⟨h1,h2⟩
  ·cases h
 ·cases h
theorem vA{b:Batch}(hf:iS b):(fR b).length≤4900:=by
 obtain⟨h1,h2⟩:=kx hf;have a1:=lF (fj b);have a2:(fj b).length=7:=rfl;have a3:=gF b.recs.length;have a4:(iA b).length≤10+169 * b.recs.length:=by
  cases hr:b.recs with
  | nil=>simp[iA,hr]
  | cons r rs =>
   have a5:=gF r.stamp;have a6:∀ (l:List Rec) (st:Int),(∀ r∈l,kb r=0)→(fX b.base st l).length≤169 * l.length:=fun l=>by
    induction l with
    | nil=>simp[fX]
    | cons q l ih =>
     intro st h;have e1:=ih st fun r hr=>h r (.tail _ hr)
     have e2:=fQ (h q (.head _));have e3:=sH (base:=b.base) (stamp:=st) e2.2.1 e2.2.2;simp[fX]at e1 ⊢;omega
   have a7:=a6 (r :: rs) r.stamp (by rw[← hr];exact h1);simp only[iA,hr,length_append];omega
 simp only[fR,length_append,List.length_cons,List.length_nil];omega
theorem ml(b:Batch):(eu b).length=(fR b).length+8:=by
 simp only[eu,length_append,fW,ky];omega
theorem pO(x:Batch)(cs:Kt)(G:Ks)(hx:BE G x cs):FnO Tryz.prog 154 #[.agg cs.toArray] G [] (fun _ L' r=>yR (Eu x) L' r):=by
 have h1:=vB x cs G hx;have h2:=zY x cs G hx;obtain⟨A,c,rfl,-⟩:=hx;refine F154.fnO (by simp) dS (dY ?_);unfold c154;unfold fu at h1 h2 ⊢;intros;refine gR 0 0 c154r0.eq_1 ?_;intros;refine gR 5 7 c154r1.eq_1 ?_;refine fK (h1 _ _) ?_;intros;refine gC ?_;refine gb (fun k1=>?_) (fun k1=>?_)
 ·have k1:¬ iS x:=by simpa using k1
  intros;refine gR 0 0 c154r2.eq_1 ?_;intros;refine dT ?_;refine dU (eA none 5 1) ?_;refine ea (ee _ rfl (.cons_cons _ KL) (dW dS) ?_);have he:=xc k1;rw[vV (by rw[he];decide),he];exact⟨_,rfl,[],.nil,rfl⟩
 have k1:iS x:=by simpa using k1
 have hbl:=vA k1;have hwl:=ml x;intros;refine gN ?_;intros;refine gR 8 10 c154r3.eq_1 ?_;refine(h2 k1 _ []).mono ?_;rintro r h' ⟨G1,L',rfl,hg1,ys,hys,rfl⟩;refine sI ?_;intro _;intros;try refine ed ?_
 refine eI (gL (.head _)) ?_;rintro h' ⟨rfl,A2,c2,rfl,hc2,hm2⟩;intros;refine gR 10 12 c154r4.eq_1 ?_;intros;refine gC ?_;refine gb (fun k2=>?_) (fun k2=>?_)
 ·have k2:¬ (eu x).length≤2048:=by have:=KM k2;omega
  intros;refine gR 0 0 c154r5.eq_1 ?_;intros;refine dT ?_;refine dU (eA none 5 1) ?_;refine ea (ee _ rfl (.cons_cons _ KL) (dW dS) ?_);have he:=By k1 k2;rw[vV (by rw[he];decide),he];exact⟨_,rfl,[],.nil,rfl⟩
 ·have k2:(eu x).length≤2048:=by have:=KN k2;omega
  intros;refine gN ?_;intros;refine gR 13 14 c154r6.eq_1 ?_;intros;refine dT ?_;refine ea (ee _ rfl (.cons_cons _ KL) (dW dS) ?_);rw[vK (BK k1 k2)];exact⟨_,rfl,ys,hys,rfl⟩
theorem uL(x:Batch)(cs:Kt)(G:Ks)(hx:BE G x cs):FnS Tryz.prog 73 #[.agg cs.toArray] G (.int .i64 (fM x)):=by
 have h1:=DI x cs G hx;have h2:=AD x cs G hx;obtain⟨A,c,rfl,-⟩:=hx;refine F73.fnS (by simp) (dY ?_);unfold c73;unfold fu at h1 h2 ⊢;intros;refine gR 0 0 c73r0.eq_1 ?_;intros;refine gR 3 5 c73r1.eq_1 ?_;refine fK (h1 _ _) ?_;intros;refine gC ?_;refine gb (fun k1=>?_) (fun k1=>?_)
 ·have k1:¬ iS x:=by simpa using k1
  intros;refine gR 0 0 c73r2.eq_1 ?_;intros;refine rW ?_;rw[xc k1]
 have k1:iS x:=by simpa using k1
 intros;refine gN ?_;intros;refine gR 6 9 c73r3.eq_1 ?_;refine(wi (by decide) (h2 k1) _ []).mono ?_;rintro r h' ⟨G1,rfl,hg1,A2,c2,rfl,hc2,hm2,hA2⟩;refine sI ?_;intros;refine gC ?_;refine gb (fun k2=>?_) (fun k2=>?_)
 ·have k2:¬ (eu x).length≤2048:=by have:=KM k2;omega
  intros;refine gR 0 0 c73r4.eq_1 ?_;intros;refine rW ?_;rw[By k1 k2]
 ·have k2:(eu x).length≤2048:=by have:=KN k2;omega
  intros;refine gN ?_;intros;refine gR 0 0 c73r5.eq_1 ?_;intros;refine rW ?_;rw[BK k1 k2]
theorem Fa(x:Batch):(Eu x).2=fM x:=by
 unfold Eu;split
 ·rename_i h;exact h.symm
 ·rfl
theorem lX(x:Batch)(cs:Kt)(G:Ks)(hx:BE G x cs):FnS Tryz.prog 118 #[.agg cs.toArray] G (.int .i64 (fM x)):=by
 have h1:=pO x cs G hx;obtain⟨A,c,rfl,-⟩:=hx;refine F118.fnS (by simp) (dY ?_);unfold c118;unfold fu at h1 ⊢;intros;refine gR 0 0 c118r0.eq_1 ?_;intros;refine gR 5 10 c118r1.eq_1 ?_;refine(h1 _ []).mono ?_;rintro r h' ⟨G1,L',rfl,hg1,u,rfl,ys,hys,rfl⟩;refine sI ?_;intros;refine gR 10 11 c118r2.eq_1 ?_;intros;refine rW ?_;rw[Fa]
theorem DE(x:Batch)(cs:Kt)(G:Ks)(hx:BE G x cs):FnS Tryz.prog 120 #[.agg cs.toArray] G (.int .i64 (Dp x)):=by
 have h1:=pO x cs G hx;obtain⟨A,c,rfl,-⟩:=hx;refine F120.fnS (by simp) (dY ?_);unfold c120;unfold fu at h1 ⊢;intros;refine gR 0 0 c120r0.eq_1 ?_;intros;refine gR 4 10 c120r1.eq_1 ?_;refine(h1 _ []).mono ?_;rintro r h' ⟨G1,L',rfl,hg1,u,rfl,ys,hys,rfl⟩;refine sI ?_;intro _;intros;try refine ed ?_
 refine eI (gL (.head _)) ?_;rintro h' ⟨rfl,A2,c2,rfl,hc2,hm2⟩;intros;refine gR 10 12 c120r2.eq_1 ?_;intros;refine rW ?_;rfl
theorem F166:Fun Tryz.prog 166 10 v166 c166 o166:=Fun.mkA Tryz.func166 Tryz.ntmps166
theorem F191:Fun Tryz.prog 191 26 v191 c191 o191:=Fun.mkA Tryz.func191 Tryz.ntmps191
theorem F192:Fun Tryz.prog 192 33 v192 c192 o192:=Fun.mkA Tryz.func192 Tryz.ntmps192
theorem F169:Fun Tryz.prog 169 19 v169 c169 o169:=Fun.mkA Tryz.func169 Tryz.ntmps169
theorem pH{α:Type}[BEq α][LawfulBEq α][DecidableEq α](a b:α):(a == b)=decide (a=b):=by by_cases h:a=b <;> simp[h]
theorem p9{G:Ks}{v:Value}{l:KD}(hl:SB G v l){h:H}(hG:h.G=G):um h v ⟨l.toArray⟩:=by
 obtain⟨G',L,D⟩:=h;dsimp only at hG;subst hG;obtain⟨A,c,rfl,hc,hm,hA⟩:=hl;cases A with
 | none =>
  match l,hA with
  | [],_=>exact .inl ⟨c,rfl,rfl⟩
  | x :: xs,hA=>obtain⟨a,_,ha,_⟩:=hA 0 x rfl;cases ha
 | some a =>
  refine .inr ⟨a,c,rfl,fun j u hu=>?_⟩;rw[om]at hu;simp[sF]at hu;obtain⟨x,hx,rfl⟩:=hu;obtain⟨a',cs,ha,h1,h2,h3⟩:=hA j x hx;cases ha;have:=h3 0 (.int .u8 (x.toNat:Int)) (by rw[h2];rfl);simp at this;exact .g this
theorem H9(a b:KD):fq .eql (.string ⟨a.toArray⟩) (.string ⟨b.toArray⟩)=some (.bool (decide (a=b))):=by
 have h:fq .eql (.string ⟨a.toArray⟩) (.string ⟨b.toArray⟩)=some (.bool ((ByteArray.mk a.toArray).toList == (ByteArray.mk b.toArray).toList)):=rfl;rw[h,ByteArray.toList_mk,ByteArray.toList_mk,pH]
theorem zA(l m:KD)(v u:Value)(G:Ks)(hl:SB G v l)(hm:SB G u m):FnS Tryz.prog 166 #[v,u] G (.bool (decide (l=m))):=by
 refine F166.fnS (by simp) (dY ?_);unfold c166;intros;refine gR 0 0 c166r0.eq_1 ?_;intros;refine gR 5 10 c166r1.eq_1 ?_;refine⟨_,p9 hl rfl,?_⟩;refine sI ?_;refine⟨_,p9 hm rfl,?_⟩;refine sJ @H9 ?_;intros;refine rV ?_;simp only[push_cast,Nat.reduceBEq]
instance decRec (a b:Rec):Decidable (a=b):=decidable_of_iff (a.off=b.off∧a.key=b.key∧a.val=b.val∧a.dead=b.dead∧a.stamp=b.stamp) (by cases a;cases b;simp)
instance decBatch (a b:Batch):Decidable (a=b):=decidable_of_iff (a.base=b.base∧a.last=b.last∧a.src=b.src∧a.epoch=b.epoch∧a.pid=b.pid∧a.gen=b.gen∧a.seq=b.seq∧a.txn=b.txn∧a.ctl=b.ctl∧a.recs=b.recs) (by cases a;cases b;simp)
theorem EW(a b:ByteArray):(a.toList == b.toList)=decide (a=b):=by
 rw[pH,ByteArray.toList_eq,ByteArray.toList_eq];congr 1;apply propext;constructor
 ·intro h;cases a;cases b;simp at h;rw[h]
 ·intro h;rw[h]
theorem J9(a b:Rec):eqC [0,2,2,1,0] (gT a) (gT b)=some (decide (a=b)):=by
 have h:(a=b)↔(a.off=b.off∧a.key=b.key∧a.val=b.val∧a.dead=b.dead∧a.stamp=b.stamp):=by cases a;cases b;simp
 simp only[gT,eqC,if_true,Option.map_some,EW,h];rw[pH a.dead b.dead];simp only[Bool.and_true,Bool.decide_and]
theorem rA{α:Type}[DecidableEq α]{a b:List α}{k:Nat}(hk:k=a.length)(hl:a.length=b.length)(h:a.take k=b.take k):a=b:=by
 subst hk;rw[take_length,hl,take_length]at h;exact h
theorem kB{α:Type}{a b:List α}{k:Nat}{x y:α}(h:a.take k=b.take k)(hx:a[k]?=some x)(hy:b[k]?=some y)(hxy:x=y):a.take (k+1)=b.take (k+1):=by
 have h1:=List.getElem?_eq_some_iff.1 hx;have h2:=List.getElem?_eq_some_iff.1 hy;rw[List.take_succ_eq_append_getElem h1.1,List.take_succ_eq_append_getElem h2.1,h,h1.2,h2.2,hxy]
theorem AS(a b:List Rec)(v u:Value)(G:Ks)(ha:SlV G RR 5 v a)(hb:SlV G RR 5 u b):FnS Tryz.prog 191 #[v,u] G (.bool (decide (a=b))):=by
 obtain⟨A,c,rfl,hc,hm,hA⟩:=ha;obtain⟨B,d,rfl,hd,hn,hB⟩:=hb;refine F191.fnS (by simp) (dY ?_);unfold c191;intros;refine gR 0 0 c191r0.eq_1 ?_;intros;refine gR 6 10 c191r1.eq_1 ?_;intros;refine gC ?_;refine gb (fun h1=>?_) (fun h1=>?_)
 ·have h1:=KM h1;intros;refine gR 0 0 c191r2.eq_1 ?_;intros;refine rW ?_;rw[decide_eq_false fun h=>h1 (by rw[h])]
 ·have h1:a.length=b.length:=by have:=KN h1;omega
  intros;refine gN ?_;intros;refine gR 11 12 c191r3.eq_1 ?_;intros;refine dT ?_;refine ej (fun e h=>∃ k:Nat,(k≤a.length∧a.take k=b.take k)∧e 13=.int .i64 k∧e 12=.int .i64 a.length∧e 0=.slice A a.length c∧e 1=.slice B b.length d∧h=⟨G,[],[]⟩) (fun e h=>a.length - iv (e 13)) ?_ ?_
  ·exact⟨0,⟨Nat.zero_le _,rfl⟩,eE,eE,eE,eE,rfl⟩
  ·rintro e h ⟨k,⟨hk,htk⟩,e13,e12,e0,e1,rfl⟩;refine dV [0,1,12,13] ?_;refine sJ4 @e0 @e1 @e12 @e13 ?_;intros;refine gR 0 0 c191r4.eq_1 ?_;intros;refine gC ?_;refine gb (fun h2=>?_) (fun h2=>?_)
   ·have hkl:k < a.length:=by simpa using h2
    have hw3:=eW k c (by omega) hm;obtain⟨x,hx⟩:∃ x,a[k]?=some x:=⟨a[k],getElem?_eq_getElem (by omega)⟩;obtain⟨y,hy⟩:∃ y,b[k]?=some y:=⟨b[k],getElem?_eq_getElem (by omega)⟩;intros;refine gN ?_;intros;refine gR 15 16 c191r5.eq_1 ?_;intros;refine dT ?_;refine qB 16 24 (by decide) ?_;refine sJ c191r6.eq_1 ?_;refine hA.y_ld hx rfl rfl ?_;rintro a1 ha1 cs ⟨rfl,-⟩;refine sI ?_
    refine hB.y_ld hy rfl rfl ?_;rintro a2 ha2 cs ⟨rfl,-⟩;refine sJ @J9 ?_;intros;refine gC ?_;refine gb (fun h3=>?_) (fun h3=>?_)
    ·have h3:¬ x=y:=by simpa using h3
     intros;refine gR 0 0 c191r7.eq_1 ?_;intros;refine rW ?_;rw[decide_eq_false fun h=>h3 (by subst h;rw[hx]at hy;cases hy;rfl)]
    ·have h3:x=y:=by simpa using h3
     intros;refine gN ?_;intros;refine gR2 25 26 c191r8.eq_1 @hw3 ?_;intros;refine dT ?_;refine eF ⟨⟨k+1,⟨by omega,kB htk hx hy h3⟩,eE,eE,eE,eE,rfl⟩,?_⟩;refine sI ?_;omega
   ·have hkl:k=a.length:=by simp at h2;omega
    refine eg ?_;refine sI ?_;intros;refine gR 0 0 c191r9.eq_1 ?_;intros;refine rW ?_;rw[decide_eq_true (rA hkl h1 htk)]
theorem BE.recs{G:Ks}{x:Batch}{cs:Kt}(h:BE G x cs):∃ A c,cs=fu x (.slice A x.recs.length c)∧SlV G RR 5 (.slice A x.recs.length c) x.recs:=by
 obtain⟨A,c,h1,⟨h2,h3,h4⟩,-⟩:=h;exact⟨A,c,h1,A,c,rfl,h2,h3,h4⟩
theorem HU(x y:Batch):decide (x=y)=(decide (x.base=y.base) && decide (x.last=y.last) && decide (x.src=y.src) && decide (x.epoch=y.epoch) && decide (x.pid=y.pid) && decide (x.gen=y.gen) && decide (x.seq=y.seq) && (x.txn == y.txn) && decide (x.ctl=y.ctl) && decide (x.recs=y.recs)):=by
 have h:(x=y)↔(x.base=y.base∧x.last=y.last∧x.src=y.src∧x.epoch=y.epoch∧x.pid=y.pid∧x.gen=y.gen∧x.seq=y.seq∧x.txn=y.txn∧x.ctl=y.ctl∧x.recs=y.recs):=by cases x;cases y;simp
 simp only[h,Bool.decide_and,pH,Bool.and_assoc]
theorem wB(x:Batch)(cs:Kt)(G:Ks)(hx:BE G x cs):
  FnS Tryz.prog 192 #[.agg cs.toArray] G (.agg #[.int .i64 x.base,.int .i64 x.last,.int .i64 x.src,.int .i64 x.epoch,.int .i64 x.pid,.int .i64 x.gen,.int .i64 x.seq,.int .i64 x.ctl,.int .i64 (if x.txn=true then 1 else 0)]):=by
 obtain⟨A,c,rfl,hA⟩:=hx.recs;refine F192.fnS (by simp) (dY ?_);unfold c192 fu;intros;refine gR 0 0 c192r0.eq_1 ?_;intros;refine gR 5 7 c192r1.eq_1 ?_;intros;try refine ed ?_
 refine eL (fun e h=>e 3=.int .i64 (if x.txn=true then IntKind.i64.wrap (IntKind.i64.wrap (x.ctl * 2)+1)else IntKind.i64.wrap (x.ctl * 2))∧h=⟨G,[.reg 2 [.int .i64 0,.int .i64 0,.int .i64 0,.int .i64 0,.int .i64 0,.int .i64 0,.int .i64 0,.int .i64 0,.int .i64 0],.reg 1 [.int .i64 x.base,.int .i64 x.last,.int .i64 x.src,.int .i64 x.epoch,.int .i64 x.pid,.int .i64 x.gen,.int .i64 x.seq,.bool x.txn,.int .i64 x.ctl,.slice A x.recs.length c]],[]⟩) ?_ ?_
 ·intros;refine gR 0 0 c192r2.eq_1 ?_;intros;refine gC ?_;refine gb (fun k1=>?_) (fun k1=>?_)
  ·intros;refine gR 9 11 c192r3.eq_1 ?_;intros;refine dT ?_;refine eF ⟨?_,rfl⟩;rw[if_pos k1]
   (refine sI ?_;try with_reducible exact True.intro)
  ·intros;refine dT ?_;refine eF ⟨?_,rfl⟩;rw[if_neg (by rw[k1];simp)]
   (refine sI ?_;try with_reducible exact True.intro)
 rintro e h ⟨e3,rfl⟩;refine dV [3] ?_;refine sJ @e3 ?_;have hw:IntKind.i64.wrap ((if x.txn=true then IntKind.i64.wrap (IntKind.i64.wrap (x.ctl * 2)+1)else IntKind.i64.wrap (x.ctl * 2)) - IntKind.i64.wrap (x.ctl * 2))=(if x.txn=true then 1 else 0):=by
  simp only[IntKind.wrap_i64];split <;> omega
 intros;refine gr 12 33 ?_;(try simp -implicitDefEqProofs only[mg,mf,push_cast,Nat.reduceBEq,Nat.reduceAdd,Nat.reduceSub,Nat.reduceMul,Nat.reduceLT,Nat.reduceLeDiff,Nat.reduceEqDiff,reduceIte,Bool.not_true,Bool.not_false,true_and,and_true,Option.map_some,Option.bind_some,Int.toNat_natCast,c192r4,hw]);intros;refine rV ?_;simp only[push_cast,Nat.reduceBEq]
theorem Dh(x y:Batch)(cs ds:Kt)(G:Ks)(hx:BE G x cs)(hy:BE G y ds):FnS Tryz.prog 169 #[.agg cs.toArray,.agg ds.toArray] G (.bool (decide (x=y))):=by
 have hhx:=wB x cs G hx;have hhy:=wB y ds G hy;obtain⟨A,c,rfl,hA⟩:=hx.recs;obtain⟨B,d,rfl,hB⟩:=hy.recs;refine F169.fnS (by simp) (dY ?_);unfold c169;unfold fu at hhx hhy ⊢;intros;refine gR 0 0 c169r0.eq_1 ?_;intros;refine gR 7 11 c169r1.eq_1 ?_;refine fK (AS _ _ _ _ _ hA hB _ _) ?_;intros;refine gC ?_;refine gb (fun k1=>?_) (fun k1=>?_)
 ·have k1:¬ x.recs=y.recs:=by simpa using k1
  intros;refine gR 0 0 c169r2.eq_1 ?_;intros;refine rW ?_;rw[decide_eq_false fun h=>k1 (by rw[h])]
 have k1:x.recs=y.recs:=by simpa using k1
 intros;refine gN ?_;intros;refine gR 0 0 c169r3.eq_1 ?_;intros;refine dT ?_;refine lk _ KJ (by decide) ?_;refine sJ c169r4.eq_1 ?_;refine .inl ⟨_,_,rfl,?_⟩;refine fK (hhx _ _) ?_;refine .inl ⟨_,_,rfl,?_⟩;refine fK (hhy _ _) ?_;intros;refine rW ?_;rw[HU,k1];cases x.txn <;> cases y.txn <;> simp[Bool.and_assoc]
instance decI64 (n:Int):Decidable (I64 n):=by
 unfold I64
 infer_instance
end Go.Proofs.YtpmofpekcbghnaaGreat

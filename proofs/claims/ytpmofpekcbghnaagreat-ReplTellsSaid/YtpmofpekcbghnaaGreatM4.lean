/- Parts of a proof, 5 texts in one file. No condition. -/
import Derived.Laws.Strings
import Derived.Test.YtpmofpekcbghnaaGreatM1
import Derived.Test.YtpmofpekcbghnaaGreatM2
import Derived.Test.YtpmofpekcbghnaaGreatM3
set_option linter.unusedSimpArgs false
set_option linter.unusedVariables false
namespace Go.Proofs.YtpmofpekcbghnaaGreat
open Go Go.Kx
open List (getElem?_eq_getElem mem_of_getElem? length_append take_length append_nil)
theorem F180:Fun Tryz.prog 180 91 v180 c180 o180:=Fun.mk' Tryz.func180 Tryz.ntmps180 (by kernel_rfl) (by kernel_rfl) s180 q180
theorem BA{b:Batch}{k:Nat}{n:Int}(h:(fg b)[k]?=some n):wO 7 1 none (.agg #[.int .i64 b.base,.int .i64 (b.last - b.base),.int .i64 b.src,.int .i64 b.epoch,.int .i64 b.pid,.int .i64 b.gen,.int .i64 b.seq]) (.int .i64 (k:Int))=some (.int .i64 n):=by
 have hk:=(List.getElem?_eq_some_iff.1 h).1;simp[fg]at hk
 match k,h with
 | 0,h=>cases h;rfl
 | 1,h=>cases h;rfl
 | 2,h=>cases h;rfl
 | 3,h=>cases h;rfl
 | 4,h=>cases h;rfl
 | 5,h=>cases h;rfl
 | 6,h=>cases h;rfl
theorem JD{n:Int}(h:n=0∨n=1∨n=2):fl .or (.int .u8 (IntKind.u8.wrap n)) (.int .u8 4)=some (.int .u8 ((UInt8.ofNat (n.toNat+4)).toNat:Int)):=by
 rcases h with rfl | rfl | rfl <;> rfl
theorem AP{n:Int}(h:n=0∨n=1∨n=2):IntKind.u8.wrap n=((UInt8.ofNat n.toNat).toNat:Int):=by
 rcases h with rfl | rfl | rfl <;> rfl
theorem yR(x:Batch)(cs:JU)(G:JT)(hx:BE G x cs)(hf:iP x):FnO Tryz.prog 180 #[.agg cs.toArray] G [] (fun _ L' r=>pC (ek x) L' r):=by
 obtain⟨A,c,rfl,⟨hc,hm,hA⟩,i1,i2,i3,i4,i5,i6,i7,i8⟩:=hx;have hf0:=hf;obtain⟨⟨f1,f2,f3⟩,⟨f4,f5,f6⟩,⟨f7,f8,f9,f10⟩,f11,f12,f13⟩:=hf;simp[rng]at f1 f2 f3 f4 f5 f6;refine F180.fnO (by simp) dS (d7 ?_);unfold c180 fo;have w1:IntKind.i64.wrap (x.last - x.base)=x.last - x.base:=by rw[eh] <;> omega
 intros;refine gR 0 0 c180r0.eq_1 ?_;intros;refine gR 0 0 c180r1.eq_1 ?_;intros;refine gR2 13 29 c180r2.eq_1 @w1 ?_;intros;refine dT ?_;refine dW (ew none 5 1) ?_
 refine ej (fun e h=>∃ (k:Nat) (G':JT) (u:Value) (zc:JU),(k≤7∧Gle G G'∧Cells UE 1 (fb ((fg x).take k)) zc)∧e 30=.int .i64 k∧e 29=.agg #[.int .i64 x.base,.int .i64 (x.last - x.base),.int .i64 x.src,.int .i64 x.epoch,.int .i64 x.pid,.int .i64 x.gen,.int .i64 x.seq]∧e 3=u∧h.G=G'∧h.D=[]∧[.row u 5 1 (fb ((fg x).take k)).length zc,.reg 1 [.int .i64 x.base,.int .i64 x.last,.int .i64 x.src,.int .i64 x.epoch,.int .i64 x.pid,.int .i64 x.gen,.int .i64 x.seq,.bool x.txn,.int .i64 x.ctl,.slice A x.recs.length c]].Sublist h.L) (fun e h=>7 - iv (e 30)) ?_ ?_
 ·exact⟨0,G,_,[],⟨Nat.zero_le _,.refl _,.nil⟩,eE,eE,eE,rfl,rfl,List.Sublist.refl _⟩
 ·rintro e ⟨G',L,D⟩ ⟨k,G2,u,zc,⟨hk,hgg,hcs⟩,e30,e29,e3,hG,hD,hL⟩;dsimp only at hG hD hL;subst hG hD;refine dW (dY hL) ?_;refine dX [3,29,30] ?_;refine sJ3 @e3 @e29 @e30 ?_;have hhl:=lK ((fg x).take k);have hh7:((fg x).take k).length≤7:=by simp[fg];omega
  intros;refine gR 0 0 c180r3.eq_1 ?_;intros;refine gC ?_;refine gb (fun ht=>?_) (fun ht=>?_)
  ·have hkl:k < 7:=by simp at ht;omega
   have hw3:=eY k 7 (by omega) (by unfold maxLen;omega);obtain⟨n,hn⟩:∃ n,(fg x)[k]?=some n:=⟨(fg x)[k]'(by simp[fg];omega),getElem?_eq_getElem _⟩;have hin:I64 n:=by
    have:=mem_of_getElem? hn;simp[fg]at this;unfold I64 at *;omega
   have hix:=BA hn;have hsucc:=nZ hn
   (repeat first | refine eD ?_ | refine iV ?_)
   intros;refine gR2 32 33 c180r4.eq_1 @hix ?_;intros;refine gR 33 36 c180r5.eq_1 ?_;refine fq F200.enters (ef [] _ (by decide) hcs) ?_;rintro h' ⟨G3,rfl,hg3,hv3⟩;refine(jq _ n hin _ G3 hv3 (by omega) _ []).mono ?_;rintro r h' ⟨G4,L',rfl,hg4,ys,hys,rfl⟩;rw[← hsucc]at hys ⊢;refine sI ?_;intros;refine gR2 36 37 c180r6.eq_1 @hw3 ?_;intros;refine dT ?_
   refine eC ⟨⟨k+1,G4,_,ys,⟨by omega,hgg.trans (hg3.trans hg4),hys⟩,eE,eE,eE,rfl,rfl,List.Sublist.refl _⟩,?_⟩;refine sI ?_;omega
  ·have hkl:k=7:=by simp at ht;omega
   subst hkl;rw[show(fg x).take 7=fg x from rfl]at hcs hhl ⊢;have hmx:=kf hf0;have hh8:(fg x).length=7:=rfl;refine eg ?_;refine sI ?_;intros;refine gR 38 40 c180r7.eq_1 ?_;have hend:∀ (e:Env) (G6:JT) (u:Value) (zc:JU),Cells UE 1 (fM x) zc→(fM x).length≤5000→e 3=u →
     go none Tryz.prog 91 v180.1 v180.2 (fB o180 fun v h=>pC (ek x) h.L v) [Td.s ((SC.reg false c180r20).seq ((SC.reg false c180r21).seq SC.ret))] e ⟨G6,[.row u 5 1 (fM x).length zc,.reg 1 [.int .i64 x.base,.int .i64 x.last,.int .i64 x.src,.int .i64 x.epoch,.int .i64 x.pid,.int .i64 x.gen,.int .i64 x.seq,.bool x.txn,.int .i64 x.ctl,.slice A x.recs.length c]],[]⟩:=fun e G6 u zc hzc hbl e3=>by
    refine dX [3] ?_;refine sJ @e3 ?_;intros;refine gR 83 85 c180r20.eq_1 ?_;refine fq F202.enters (ef [] _ (by decide) hzc) ?_;rintro h' ⟨G7,rfl,hg7,hv7⟩;refine(BN _ _ G7 hv7 (by omega) _ []).mono ?_;rintro r h' ⟨G8,L',rfl,hg8,ys,hys,rfl⟩;refine sI ?_;intro _;have hsl:=kj (fM x);refine eI (ef [] _ (by decide) hys) ?_;rintro h' ⟨G9,rfl,hg9,hv9⟩;obtain⟨As,cs',rfl,-,-,-⟩:=id hv9
    have hwl:IntKind.u64.wrap ((g0 (fM x)).length:Int)=((g0 (fM x)).length:Int):=by rw[IntKind.wrap_u64];omega
    intros;refine gR2 85 91 c180r21.eq_1 @hwl ?_;refine(vI [] (g0 (fM x)).length 4 (by omega) (by omega) _ G9 SB.nil (by simp) _ []).mono ?_;rintro r h' ⟨G10,L',rfl,hg10,ys2,hys2,rfl⟩;simp only[List.nil_append]at hys2 ⊢;refine sI ?_;refine ki (L1:=[]) (.inl rfl) (SB.le hv9 hg10) rfl UE1 (by rw[fP];unfold maxLen;omega) fun ys' A' c' hc'=>?_
    have hh:=hys2.app hc';refine sI ?_;intros;refine dT ?_;refine ea (ee _ rfl (.cons_cons _ Ka) (dV dS) ?_);rw[← length_append];exact⟨_,hh,rfl⟩
   have hrest:∀ (e:Env),e 3=u→e 6=.int .u8 ((iQ x).toNat:Int) →
     go none Tryz.prog 91 v180.1 v180.2 (fB o180 fun v h=>pC (ek x) h.L v) [Td.s ((SC.rgX c180r10).seq (((SC.reg false c180r11).seq (SC.cond (O.t 55) ((SC.reg false c180r12).seq ((SC.reg false c180r13).seq ((SC.reg false c180r14).seq (SC.blk 2 ((SC.reg false c180r15).seq ((SC.cond (O.t 68) SC.skip (SC.exit 2)).seq ((SC.blk 3 ((SC.reg false c180r16).seq ((SC.reg false c180r17).seq (SC.reg false c180r18)))).seq (SC.reg false c180r19)))).loop)))) SC.skip)).seq ((SC.reg false c180r20).seq ((SC.reg false c180r21).seq SC.ret))))] e ⟨G',[.row u 5 1 (fb (fg x)).length zc,.reg 1 [.int .i64 x.base,.int .i64 x.last,.int .i64 x.src,.int .i64 x.epoch,.int .i64 x.pid,.int .i64 x.gen,.int .i64 x.seq,.bool x.txn,.int .i64 x.ctl,.slice A x.recs.length c]],[]⟩:=fun e e3 e6=>by
    refine dX [3,6] ?_;refine sJ2 @e3 @e6 ?_;intros;refine dT ?_;refine ly _ (.cons _ J9) (by decide) ?_;refine sJ c180r10.eq_1 ?_;intro bk hbk;refine⟨ed Kd (.cons _ (.cons _ J9)),?_⟩;refine sI ?_;refine vv (L1:=[]) (L2:=[_]) (x:=iQ x) rfl rfl hcs (by omega) fun A' c' zc' hzc=>?_
    refine sI ?_;refine⟨ed Kd (.cons _ (.cons _ J9)),?_⟩;refine sI ?_;refine fq F200.enters (ef [_] _ (by decide) hzc) ?_;rintro h' ⟨G4,rfl,hg4,hv4⟩;refine(jq _ x.recs.length (by unfold I64;omega) _ G4 hv4 (by simp;omega) _ []).mono ?_;rintro r h' ⟨G5,L',rfl,hg5,ys5,hys5,rfl⟩;refine⟨ed (hg4.trans hg5) (.cons _ (.cons _ J9)),?_⟩;refine sI ?_;have hpl:=gA x.recs.length
    (repeat first | (with_reducible intro _) | refine dU ?_)
    refine dW (dY (L':=[.row r 5 1 (fb (fg x)++[iQ x]++pvB x.recs.length).length ys5,.reg 1 [.int .i64 x.base,.int .i64 x.last,.int .i64 x.src,.int .i64 x.epoch,.int .i64 x.pid,.int .i64 x.gen,.int .i64 x.seq,.bool x.txn,.int .i64 x.ctl,.slice A x.recs.length c]]) ?hsub) ?_
    case hsub=>exact .cons_cons _ (.cons _ J9)
    intros;refine gR 53 55 c180r11.eq_1 ?_;intros;refine gC ?_;refine gb (fun k1=>?_) (fun k1=>?_)
    ·have hpos:0 < x.recs.length:=by simpa using k1
     obtain⟨r0,h0⟩:∃ r0,x.recs[0]?=some r0:=⟨x.recs[0],getElem?_eq_getElem hpos⟩;have hg5:=hgg.trans (hg4.trans hg5);have hA5:=hA.le hg5 (E':=RR) Kd;intros;refine gR 57 61 c180r12.eq_1 ?_;refine hA5.x_lf h0 rfl rfl (fun cs h=>by rw[h.1];rfl) fun a ha=>?_
     refine sI ?_;have hck0:=hmx.1 r0 (mem_of_getElem? h0);obtain⟨⟨-,q0⟩,-,-⟩:=fH hck0;have q0':=q0;simp[inO]at q0';have hst:I64 r0.stamp:=by unfold I64;omega
     intros;refine gR 61 64 c180r13.eq_1 ?_;refine fq F200.enters (ef [] _ (by decide) hys5) ?_;rintro h' ⟨G6,rfl,hg6,hv6⟩;refine(jq _ r0.stamp hst _ G6 hv6 (by simp;omega) _ []).mono ?_;rintro r h' ⟨G7,L',rfl,hg7,ys7,hys7,rfl⟩;have hp7:=gA r0.stamp;refine sI ?_;have hA7:=hA5.le (hg6.trans hg7) (E':=RR) Kd;have hst0:ii x=pvB r0.stamp++fR x.base r0.stamp x.recs:=by
      match hr:x.recs,h0 with
      | r :: rs,h0=>simp[hr]at h0;subst h0;rw[ii,hr]
     generalize hP:fb (fg x)++[iQ x]++pvB x.recs.length++pvB r0.stamp=P at hys7 ⊢;have hPl:P.length≤100:=by rw[← hP];simp;omega
     intros;refine gR 0 0 c180r14.eq_1 ?_;intros;refine dT ?_
     refine ej (fun e h=>∃ (k:Nat) (G':JT) (u:Value) (zc:JU),(k≤x.recs.length∧Gle G7 G'∧Cells UE 1 (P++fR x.base r0.stamp (x.recs.take k)) zc∧(fR x.base r0.stamp (x.recs.take k)).length≤169 * k)∧e 67=.int .i64 k∧e 66=.int .i64 x.recs.length∧e 65=.slice A x.recs.length c∧e 7=.int .i64 r0.stamp∧e 3=u∧h.G=G'∧h.D=[]∧[.row u 5 1 (P++fR x.base r0.stamp (x.recs.take k)).length zc,.reg 1 [.int .i64 x.base,.int .i64 x.last,.int .i64 x.src,.int .i64 x.epoch,.int .i64 x.pid,.int .i64 x.gen,.int .i64 x.seq,.bool x.txn,.int .i64 x.ctl,.slice A x.recs.length c]].Sublist h.L) (fun e h=>x.recs.length - iv (e 67)) ?_ ?_
     ·exact⟨0,G7,r,ys7,⟨Nat.zero_le _,.refl _,by simpa [fR]using hys7,by simp[fR]⟩,eE,eE,eE,eE,eE,rfl,rfl,by simp[fR]⟩
     ·rintro e ⟨G',L,D⟩ ⟨k,G2,u,zc,⟨hk,hgg,hcs,hrl⟩,e67,e66,e65,e7,e3,hG,hD,hL⟩;dsimp only at hG hD hL;subst hG hD;refine dW (dY hL) ?_;refine dX [3,7,65,66,67] ?_;refine sJ5 @e3 @e7 @e65 @e66 @e67 ?_;intros;refine gR 0 0 c180r15.eq_1 ?_;intros;refine gC ?_;refine gb (fun ht=>?_) (fun ht=>?_)
      ·have hkl:k < x.recs.length:=by simpa using ht
       have hw3:=eY k c (by omega) hm;obtain⟨r,hr⟩:∃ r,x.recs[k]?=some r:=⟨x.recs[k],getElem?_eq_getElem (by omega)⟩;have hsucc:=ow (base:=x.base) (stamp:=r0.stamp) hr;have hckr:=hmx.1 r (mem_of_getElem? hr);have hcs':=fH hckr;have hpl:=sa (base:=x.base) (stamp:=r0.stamp) hcs'.2.1 hcs'.2.2;have hput:nJ r x.base r0.stamp=(prB r x.base r0.stamp,0):=by
        rw[nJ,if_neg (by simp[hckr]),if_neg (by simp[inO,f1,q0'])]
       have hAk:=hA7.le hgg (E':=RR) Kd;intros;refine gN ?_;intros;refine gR 69 71 c180r16.eq_1 ?_;refine hAk.x_ld hr rfl rfl ?_;rintro a1 ha1 cs ⟨rfl,-⟩;have hPut:=E7 r x.base r0.stamp;unfold gJ at hPut ⊢;refine sI ?_;intros;refine gR 71 79 c180r17.eq_1 ?_;refine(hPut G' _ []).mono ?_;rintro v h' ⟨G8,L',rfl,hg8,w,rfl,ys8,hys8,rfl⟩;rw[hput]at hys8 ⊢;refine sI ?_;intro _
       refine eI (ef [] _ (by decide) hys8) ?_;rintro h' ⟨G9,rfl,hg9,hv9⟩;intros;refine gR 79 82 c180r18.eq_1 ?_;refine ki (L1:=[_]) (.inl rfl) hv9 rfl UE1 (by simp;unfold maxLen;omega) fun ys' A' c' hc'=>?_
       have hh:=hcs.app hc';rw[List.append_assoc,← hsucc]at hh;rw[← length_append,List.append_assoc,← hsucc];refine sI ?_;intros;refine gR2 82 83 c180r19.eq_1 @hw3 ?_;intros;refine dT ?_;refine eC ⟨⟨k+1,G9,_,_,⟨by omega,hgg.trans (hg8.trans hg9),hh,by rw[hsucc,length_append];omega⟩,eE,eE,eE,eE,eE,rfl,rfl,.cons _ J9⟩,?_⟩;refine sI ?_;omega
      ·have hkl:k=x.recs.length:=by simp at ht;omega
       subst hkl;rw[take_length]at hcs hrl;have hbody:fM x=P++fR x.base r0.stamp x.recs:=by rw[fM,hst0,← hP];simp
       refine eg ?_;refine sI ?_;rw[take_length,← hbody];rw[← hbody]at hcs;refine hend _ G' _ zc hcs (by rw[hbody];simp;omega) ?_
       (refine sI ?_;try with_reducible exact True.intro)
    ·have hnil:x.recs=[]:=by have:=Kc k1;exact List.eq_nil_of_length_eq_zero (by omega)
     have htl:ii x=[]:=by rw[ii,hnil]
     have hbody:fM x=fb (fg x)++[iQ x]++pvB x.recs.length:=by rw[fM,htl,append_nil]
     rw[← hbody]at hys5 ⊢
     (repeat first | refine eD ?_ | refine iV ?_)
     refine hend _ G5 _ ys5 hys5 (by rw[hbody];simp;omega) ?_
     (refine sI ?_;try with_reducible exact True.intro)
   have hctl:x.ctl=0∨x.ctl=1∨x.ctl=2:=by
    rcases f13 with h | h
    ·exact .inl h.1
    ·exact .inr h.1
   intros;refine gR 0 0 c180r8.eq_1 ?_;intros;refine gC ?_;refine gb (fun k1=>?_) (fun k1=>?_)
   ·have hm4:=JD hctl;intros;refine gR2 42 44 c180r9.eq_1 @hm4 ?_;intro _
    (repeat first | refine eD ?_ | refine iV ?_)
    refine hrest _ ?_ ?_ <;> (refine sI ?_;try with_reducible exact True.intro);rw[iQ,if_pos k1]
   ·(repeat first | refine eD ?_ | refine iV ?_)
    refine hrest _ ?_ ?_ <;> (refine sI ?_;try with_reducible exact True.intro);rw[iQ,if_neg (by rw[k1];simp),AP hctl];rfl
theorem F128:Fun Tryz.prog 128 91 v128 c128 o128:=Fun.mkA Tryz.func128 Tryz.ntmps128
theorem oG:∀ (l:J6),(∀ x∈l,I64 x)→Cells IE 1 l (l.map fun n=>.int .i64 n)
 | [],_=>.nil
 | n :: l,h=>.cons (cs:=[.int .i64 n]) ⟨rfl,h n (.head _)⟩ rfl (oG l fun x hx=>h x (.tail _ hx))
theorem Ew{n:Int}(h:n=0∨n=1∨n=2):IntKind.u8.wrap (IntKind.i64.wrap (n+4))=((UInt8.ofNat (n.toNat+4)).toNat:Int):=by
 rcases h with rfl | rfl | rfl <;> rfl
def kY(x:Batch)(k:Nat):J3:=ii { x with recs:=x.recs.take k }
theorem pu(x:Batch):kY x 0=[]:=by simp[kY,ii]
theorem wP(x:Batch):kY x x.recs.length=ii x:=by simp[kY]
theorem p5{x:Batch}{k:Nat}{r0:Rec}(h0:x.recs[0]?=some r0)(hk:0 < k):kY x k=pvB r0.stamp++fR x.base r0.stamp (x.recs.take k):=by
 match hr:x.recs,h0 with
 | r :: rs,h0 =>
  simp at h0;subst h0;obtain⟨k,rfl⟩:∃ j,k=j+1:=⟨k - 1,by omega⟩;simp[kY,ii,hr]
theorem tO{x:Batch}{k:Nat}{r r0:Rec}(h0:x.recs[0]?=some r0)(hr:x.recs[k]?=some r):kY x (k+1)=kY x k++(if k=0 then pvB r0.stamp else[])++prB r x.base r0.stamp:=by
 rw[p5 h0 (by omega),ow hr];by_cases hk:k=0
 ·subst hk;simp[pu,fR]
 ·rw[p5 h0 (by omega),if_neg hk];simp
theorem yt(x:Batch)(cs:JU)(G:JT)(hx:BE G x cs)(hf:iP x):FnO Tryz.prog 128 #[.agg cs.toArray] G [] (fun _ L' r=>pC (ek x) L' r):=by
 obtain⟨A,c,rfl,⟨hc,hm,hA⟩,i1,i2,i3,i4,i5,i6,i7,i8⟩:=hx;have hf0:=hf;obtain⟨⟨f1,f2,f3⟩,⟨f4,f5,f6⟩,⟨f7,f8,f9,f10⟩,f11,f12,f13⟩:=hf;simp[rng]at f1 f2 f3 f4 f5 f6;refine F128.fnO (by simp) dS (d7 ?_);unfold c128 fo;have w1:IntKind.i64.wrap (x.last - x.base)=x.last - x.base:=by rw[eh] <;> omega
 have hin:∀ n∈fg x,I64 n:=by
  intro n hn;simp[fg]at hn;unfold I64 at *;omega
 intros;refine gR 0 0 c128r0.eq_1 ?_;intros;refine gR 0 0 c128r1.eq_1 ?_;intros;refine gR2 12 28 c128r2.eq_1 @w1 ?_;intro b0 hb0;refine sI ?_;intros;refine dT ?_;refine eI (ef [] _ (by decide) (oG _ hin)) ?_;rintro h' ⟨G1,rfl,hg1,A7,c7,hA7e,hl7,hm7,hA7⟩;cases hA7e;refine dW (ew none 5 1) ?_
 refine ej (fun e h=>∃ (k:Nat) (G':JT) (u:Value) (zc:JU),(k≤7∧Gle G1 G'∧Cells UE 1 (fb ((fg x).take k)) zc)∧e 30=.int .i64 k∧e 29=.int .i64 7∧e 28=.slice (some ⟨b0,0,none⟩) 7 7∧e 3=u∧h.G=G'∧h.D=[]∧[.row u 5 1 (fb ((fg x).take k)).length zc,.reg 1 [.int .i64 x.base,.int .i64 x.last,.int .i64 x.src,.int .i64 x.epoch,.int .i64 x.pid,.int .i64 x.gen,.int .i64 x.seq,.bool x.txn,.int .i64 x.ctl,.slice A x.recs.length c]].Sublist h.L) (fun e h=>7 - iv (e 30)) ?_ ?_
 ·exact⟨0,G1,_,[],⟨Nat.zero_le _,.refl _,.nil⟩,eE,by refine sI ?_;rfl,eE,eE,rfl,rfl,List.Sublist.refl _⟩
 ·rintro e ⟨G',L,D⟩ ⟨k,G2,u,zc,⟨hk,hgg,hcs⟩,e30,e29,e28,e3,hG,hD,hL⟩;dsimp only at hG hD hL;subst hG hD;refine dW (dY hL) ?_;refine dX [3,28,29,30] ?_;refine sJ4 @e3 @e28 @e29 @e30 ?_;have hhl:=lK ((fg x).take k);have hh7:((fg x).take k).length≤7:=by simp[fg];omega
  intros;refine gR 0 0 c128r3.eq_1 ?_;intros;refine gC ?_;refine gb (fun ht=>?_) (fun ht=>?_)
  ·have hkl:k < 7:=by simp at ht;omega
   have hw3:=eY k 7 (by omega) (by unfold maxLen;omega);obtain⟨n,hn⟩:∃ n,(fg x)[k]?=some n:=⟨(fg x)[k]'(by simp[fg];omega),getElem?_eq_getElem _⟩;have hsucc:=nZ hn;have hA7':=hA7.le hgg (E':=IE) Kd;intros;refine gN ?_;intros;refine gR 32 34 c128r4.eq_1 ?_;refine hA7'.x_l1 hn rfl rfl ?_;rintro a1 ha1 v ⟨hv,hni⟩;cases hv;refine sI ?_;intros;refine gR 34 37 c128r5.eq_1 ?_
   refine fq F162.enters (ef [] _ (by decide) hcs) ?_;rintro h' ⟨G3,rfl,hg3,hv3⟩;refine(iF _ n hni _ G3 hv3 (by omega) _ []).mono ?_;rintro r h' ⟨G4,L',rfl,hg4,ys,hys,rfl⟩;rw[← hsucc]at hys ⊢;refine sI ?_;intros;refine gR2 37 38 c128r6.eq_1 @hw3 ?_;intros;refine dT ?_;refine eC ⟨⟨k+1,G4,_,ys,⟨by omega,hgg.trans (hg3.trans hg4),hys⟩,eE,eE,eE,eE,rfl,rfl,List.Sublist.refl _⟩,?_⟩;refine sI ?_;omega
  ·have hkl:k=7:=by simp at ht;omega
   subst hkl;rw[show(fg x).take 7=fg x from rfl]at hcs hhl ⊢;have hmx:=kf hf0;have hh8:(fg x).length=7:=rfl;have hgg':=hg1.trans hgg;refine eg ?_;refine sI ?_;intros;refine gR 39 40 c128r7.eq_1 ?_;intros;try refine dU ?_
   have hctl:x.ctl=0∨x.ctl=1∨x.ctl=2:=by
    rcases f13 with h | h
    ·exact .inl h.1
    ·exact .inr h.1
   refine eK (fun e h=>∃ n:Int,e 3=u∧e 6=.int .i64 n∧IntKind.u8.wrap n=((iQ x).toNat:Int)∧h=⟨G',[.row u 5 1 (fb (fg x)).length zc,.reg 1 [.int .i64 x.base,.int .i64 x.last,.int .i64 x.src,.int .i64 x.epoch,.int .i64 x.pid,.int .i64 x.gen,.int .i64 x.seq,.bool x.txn,.int .i64 x.ctl,.slice A x.recs.length c]],[]⟩) ?_ ?_
   ·intros;refine gR 0 0 c128r8.eq_1 ?_;intros;refine gC ?_;refine gb (fun k1=>?_) (fun k1=>?_)
    ·intros;refine gR 42 44 c128r9.eq_1 ?_;intros;refine dT ?_;refine eC ⟨IntKind.i64.wrap (x.ctl+4),eE,eE,?_,rfl⟩;rw[Ew hctl,iQ,if_pos k1]
    ·intros;refine dT ?_;refine eC ⟨x.ctl,eE,eE,?_,rfl⟩;rw[AP hctl,iQ,if_neg (by rw[k1];simp)];rfl
   rintro e h ⟨nm,e3,e6,hnm,rfl⟩;refine dX [3,6] ?_;refine sJ2 @e3 @e6 ?_;intros;refine dT ?_;refine ly _ (.cons _ J9) (by decide) ?_;refine sJ2 c128r10.eq_1 @hnm ?_;intro bk hbk;refine⟨ed Kd (.cons _ (.cons _ J9)),?_⟩;refine sI ?_;refine vv (L1:=[]) (L2:=[_]) (x:=iQ x) rfl rfl hcs (by omega) fun A' c' zc' hzc=>?_
   refine sI ?_;refine⟨ed Kd (.cons _ (.cons _ J9)),?_⟩;refine sI ?_;refine fq F162.enters (ef [_] _ (by decide) hzc) ?_;rintro h' ⟨G4,rfl,hg4,hv4⟩;refine(iF _ x.recs.length (by unfold I64;omega) _ G4 hv4 (by simp;omega) _ []).mono ?_;rintro r h' ⟨G5,L',rfl,hg5,ys5,hys5,rfl⟩;refine⟨ed (hg4.trans hg5) (.cons _ (.cons _ J9)),?_⟩;refine sI ?_;have hpl:=gA x.recs.length
   (repeat first | (with_reducible intro _) | refine dU ?_)
   refine dW (dY (L':=[.row r 5 1 (fb (fg x)++[iQ x]++pvB x.recs.length).length ys5,.reg 1 [.int .i64 x.base,.int .i64 x.last,.int .i64 x.src,.int .i64 x.epoch,.int .i64 x.pid,.int .i64 x.gen,.int .i64 x.seq,.bool x.txn,.int .i64 x.ctl,.slice A x.recs.length c]]) (.cons_cons _ (.cons _ J9))) ?_;generalize hP:fb (fg x)++[iQ x]++pvB x.recs.length=P at hys5 ⊢
   have hPl:P.length≤90:=by rw[← hP];simp;omega
   have hA5:=hA.le (hgg'.trans (hg4.trans hg5)) (E':=RR) Kd;intros;refine gR 0 0 c128r11.eq_1 ?_;intros;refine dT ?_
   refine ej (fun e h=>∃ (k:Nat) (G':JT) (u:Value) (zc zs:JU),(k≤x.recs.length∧Gle G5 G'∧Cells UE 1 (P++kY x k) zc∧(kY x k).length≤179 * k)∧e 56=.int .i64 k∧e 55=.int .i64 x.recs.length∧e 54=.slice A x.recs.length c∧e 3=u∧h.G=G'∧h.D=[]∧[.row u 5 1 (P++kY x k).length zc,.reg 1 [.int .i64 x.base,.int .i64 x.last,.int .i64 x.src,.int .i64 x.epoch,.int .i64 x.pid,.int .i64 x.gen,.int .i64 x.seq,.bool x.txn,.int .i64 x.ctl,.slice A x.recs.length c]].Sublist h.L) (fun e h=>x.recs.length - iv (e 56)) ?_ ?_
   ·exact⟨0,G5,r,ys5,[],⟨Nat.zero_le _,.refl _,by simpa [pu]using hys5,by simp[pu]⟩,eE,eE,eE,eE,rfl,rfl,by simp[pu]⟩
   ·rintro e ⟨G'',L,D⟩ ⟨k,G2,u2,zc2,-,⟨hk,hgg2,hcs2,hrl⟩,e56,e55,e54,e3,hG,hD,hL⟩;dsimp only at hG hD hL;subst hG hD;refine dW (dY hL) ?_;refine dX [3,54,55,56] ?_;refine sJ4 @e3 @e54 @e55 @e56 ?_;intros;refine gR 0 0 c128r12.eq_1 ?_;intros;refine gC ?_;refine gb (fun ht=>?_) (fun ht=>?_)
    ·have hkl:k < x.recs.length:=by simpa using ht
     have hw3:=eY k c (by omega) hm;obtain⟨r,hr⟩:∃ r,x.recs[k]?=some r:=⟨x.recs[k],getElem?_eq_getElem (by omega)⟩;obtain⟨r0,h0⟩:∃ r,x.recs[0]?=some r:=⟨x.recs[0],getElem?_eq_getElem (by omega)⟩;have hsucc:=tO h0 hr;have hck0:=hmx.1 r0 (mem_of_getElem? h0);obtain⟨⟨-,q0⟩,-,-⟩:=fH hck0;simp[inO]at q0;have hst:I64 r0.stamp:=by unfold I64;omega
     have hpst:=gA r0.stamp;have hckr:=hmx.1 r (mem_of_getElem? hr);have hcs':=fH hckr;have hplr:=sa (base:=x.base) (stamp:=r0.stamp) hcs'.2.1 hcs'.2.2;have hput:nJ r x.base r0.stamp=(prB r x.base r0.stamp,0):=by
      rw[nJ,if_neg (by simp[hckr]),if_neg (by simp[inO,f1,q0])]
     have hAk:=hA5.le hgg2 (E':=RR) Kd;intros;refine gN ?_;intros;refine gR 58 61 c128r13.eq_1 ?_;refine hAk.x_ld hr rfl rfl ?_;rintro a1 ha1 cs ⟨rfl,-⟩;have hPut:=BJ r x.base r0.stamp;unfold gJ at hPut ⊢;refine sI ?_;intros;try refine dU ?_
     refine dW (eL (.swap _ _ _)) ?_;refine eK (fun e h=>∃ (u:Value) (zc:JU) (G3:JT),e 56=.int .i64 k∧e 55=.int .i64 x.recs.length∧e 54=.slice A x.recs.length c∧e 3=u∧Cells UE 1 (P++kY x k++(if k=0 then pvB r0.stamp else[])) zc∧Gle G'' G3 ∧
      h=⟨G3,[.row u 5 1 (P++kY x k++(if k=0 then pvB r0.stamp else[])).length zc,.reg 8 [.int .i64 r.off,.string r.key,.string r.val,.bool r.dead,.int .i64 r.stamp],.reg 1 [.int .i64 x.base,.int .i64 x.last,.int .i64 x.src,.int .i64 x.epoch,.int .i64 x.pid,.int .i64 x.gen,.int .i64 x.seq,.bool x.txn,.int .i64 x.ctl,.slice A x.recs.length c]],[]⟩) ?_ ?_
     ·intros;refine gR 61 62 c128r14.eq_1 ?_;intros;refine gC ?_;refine gb (fun k1=>?_) (fun k1=>?_)
      ·have hk0:k=0:=by simpa using k1
       subst hk0;obtain rfl:r=r0:=by rw[h0]at hr;cases hr;rfl
       intros;refine gR 63 67 c128r15.eq_1 ?_;refine fq F162.enters (ef [] _ (by decide) hcs2) ?_;rintro h' ⟨G6,rfl,hg6,hv6⟩;refine(iF _ r.stamp hst _ G6 hv6 (by simp;omega) _ []).mono ?_;rintro r h' ⟨G7,L',rfl,hg7,ys7,hys7,rfl⟩;refine sI ?_;intros;refine dT ?_;exact eC ⟨_,ys7,G7,eE,eE,eE,eE,hys7,hg6.trans hg7,rfl⟩
      ·have hk0:¬ k=0:=by simpa using k1
       rw[if_neg hk0,append_nil];intros;refine dT ?_;exact eC ⟨_,zc2,G'',eE,eE,eE,eE,hcs2,.refl _,rfl⟩
     rintro e h ⟨u3,zc3,G3,e56,e55,e54,e3,hcs3,hg3,rfl⟩;refine dX [3,54,55,56] ?_;refine sJ4 @e3 @e54 @e55 @e56 ?_;have hA3:=hAk.le hg3 (E':=RR) Kd;intros;refine dT ?_;refine ly _ (.cons _ J9) (by decide) ?_;refine sJ c128r16.eq_1 ?_;refine hA3.y_lf h0 rfl rfl (fun cs h=>by rw[h.1];rfl) fun a ha=>?_
     refine sI ?_;refine(hPut G3 _ []).mono ?_;rintro v h' ⟨G8,L',rfl,hg8,w,rfl,ys8,hys8,rfl⟩;rw[hput]at hys8 ⊢;refine⟨ed hg8 (.cons _ (.cons _ J9)),?_⟩;refine sI ?_
     (repeat first | (with_reducible intro _) | refine dU ?_)
     refine eI (ef [] _ (by decide) hys8) ?_;rintro h' ⟨G9,rfl,hg9,hv9⟩;intros;refine gR 79 82 c128r17.eq_1 ?_;refine ki (L1:=[]) (.inl rfl) hv9 rfl UE1 (by simp;unfold maxLen;split <;> simp <;> omega) fun ys' A' c' hc'=>?_
     have hh:=hcs3.app hc';have hassoc:P++kY x k++(if k=0 then pvB r0.stamp else[])++prB r x.base r0.stamp=P++kY x (k+1):=by rw[hsucc];simp
     rw[hassoc]at hh;rw[← length_append,hassoc];refine sI ?_;intros;refine gR2 82 83 c128r18.eq_1 @hw3 ?_;intros;refine dT ?_;refine eC ⟨⟨k+1,G9,_,_,[],⟨by omega,hgg2.trans (hg3.trans (hg8.trans hg9)),hh,by rw[hsucc];simp only[length_append];split <;> (try simp only[List.length_nil]) <;> omega⟩,eE,eE,eE,eE,rfl,rfl,.cons_cons _ (.cons _ J9)⟩,?_⟩;refine sI ?_;omega
    ·have hkl:k=x.recs.length:=by simp at ht;omega
     subst hkl;rw[wP]at hcs2 hrl;have hbody:fM x=P++ii x:=by rw[fM,← hP]
     refine eg ?_;refine sI ?_;rw[wP,← hbody];rw[← hbody]at hcs2;have hbl:(fM x).length≤5000:=by rw[hbody];simp;omega
     intros;refine gR 83 85 c128r19.eq_1 ?_;refine fq F164.enters (ef [] _ (by decide) hcs2) ?_;rintro h' ⟨G7,rfl,hg7,hv7⟩;refine(yL _ _ G7 hv7 (by omega) _ []).mono ?_;rintro r h' ⟨G8,L',rfl,hg8,ys,hys,rfl⟩;refine sI ?_;intro _;have hsl:=kj (fM x);refine eI (ef [] _ (by decide) hys) ?_;rintro h' ⟨G9,rfl,hg9,hv9⟩;obtain⟨As,cs',rfl,-,-,-⟩:=id hv9
     have hwl:IntKind.u64.wrap ((g0 (fM x)).length:Int)=((g0 (fM x)).length:Int):=by rw[IntKind.wrap_u64];omega
     intros;refine gR2 85 91 c128r20.eq_1 @hwl ?_;refine(zC [] (g0 (fM x)).length 4 (by omega) (by omega) _ G9 SB.nil (by simp) _ []).mono ?_;rintro r h' ⟨G10,L',rfl,hg10,ys2,hys2,rfl⟩;simp only[List.nil_append]at hys2 ⊢;refine sI ?_;refine ki (L1:=[]) (.inl rfl) (SB.le hv9 hg10) rfl UE1 (by rw[fP];unfold maxLen;omega) fun ys' A' c' hc'=>?_
     have hh:=hys2.app hc';refine sI ?_;intros;refine dT ?_;refine ea (ee _ rfl (.cons_cons _ Ka) (dV dS) ?_);rw[← length_append];exact⟨_,hh,rfl⟩
theorem F154:Fun Tryz.prog 154 14 v154 c154 o154:=Fun.mkA Tryz.func154 Tryz.ntmps154
theorem F118:Fun Tryz.prog 118 11 v118 c118 o118:=Fun.mkA Tryz.func118 Tryz.ntmps118
theorem F73:Fun Tryz.prog 73 10 v73 c73 o73:=Fun.mkA Tryz.func73 Tryz.ntmps73
theorem F120:Fun Tryz.prog 120 12 v120 c120 o120:=Fun.mkA Tryz.func120 Tryz.ntmps120
def fF(b:Batch):Int:=if iP b then(if (ek b).length≤2048 then 0 else 2)else 1
def DK(b:Batch):J3 × Int:=if fF b=0 then(ek b,0)else([],fF b)
def Dd(b:Batch):Nat:=(DK b).1.length
theorem vl{b:Batch}(h:¬ iP b):fF b=1:=if_neg h
theorem AW{b:Batch}(h:iP b)(h2:¬ (ek b).length≤2048):fF b=2:=by rw[fF,if_pos h,if_neg h2]
theorem AB{b:Batch}(h:iP b)(h2:(ek b).length≤2048):fF b=0:=by rw[fF,if_pos h,if_pos h2]
theorem wo{b:Batch}(h:fF b=0):DK b=(ek b,0):=if_pos h
theorem xn{b:Batch}(h:¬ fF b=0):DK b=([],fF b):=if_neg h
theorem jP{b:Batch}(h:fF b=0):iP b∧(ek b).length≤2048:=by
 unfold fF at h;split at h
 ·rename_i h1;split at h
  ·rename_i h2;exact⟨h1,h2⟩
  ·cases h
 ·cases h
theorem xQ{b:Batch}(hf:iP b):(fM b).length≤4900:=by
 obtain⟨h1,h2⟩:=kf hf;have a1:=lK (fg b);have a2:(fg b).length=7:=rfl;have a3:=gA b.recs.length;have a4:(ii b).length≤10+169 * b.recs.length:=by
  cases hr:b.recs with
  | nil=>simp[ii,hr]
  | cons r rs =>
   have a5:=gA r.stamp;have a6:∀ (l:List Rec) (st:Int),(∀ r∈l,jW r=0)→(fR b.base st l).length≤169 * l.length:=fun l=>by
    induction l with
    | nil=>simp[fR]
    | cons q l ih =>
     intro st h;have e1:=ih st fun r hr=>h r (.tail _ hr)
     have e2:=fH (h q (.head _));have e3:=sa (base:=b.base) (stamp:=st) e2.2.1 e2.2.2;simp[fR]at e1 ⊢;omega
   have a7:=a6 (r :: rs) r.stamp (by rw[← hr];exact h1);simp only[ii,hr,length_append];omega
 simp only[fM,length_append,List.length_cons,List.length_nil];omega
theorem lW(b:Batch):(ek b).length=(fM b).length+8:=by
 simp only[ek,length_append,fP,kj];omega
theorem oH(x:Batch)(cs:JU)(G:JT)(hx:BE G x cs):FnO Tryz.prog 154 #[.agg cs.toArray] G [] (fun _ L' r=>ym (DK x) L' r):=by
 have h1:=xU x cs G hx;have h2:=yR x cs G hx;obtain⟨A,c,rfl,-⟩:=hx;refine F154.fnO (by simp) dS (d7 ?_);unfold c154;unfold fo at h1 h2 ⊢;intros;refine gR 0 0 c154r0.eq_1 ?_;intros;refine gR 5 7 c154r1.eq_1 ?_;refine fK (h1 _ _) ?_;intros;refine gC ?_;refine gb (fun k1=>?_) (fun k1=>?_)
 ·have k1:¬ iP x:=by simpa using k1
  intros;refine gR 0 0 c154r2.eq_1 ?_;intros;refine dT ?_;refine dW (ew none 5 1) ?_;refine ea (ee _ rfl (.cons_cons _ Ka) (dV dS) ?_);have he:=vl k1;rw[xn (by rw[he];decide),he];exact⟨_,rfl,[],.nil,rfl⟩
 have k1:iP x:=by simpa using k1
 have hbl:=xQ k1;have hwl:=lW x;intros;refine gN ?_;intros;refine gR 8 10 c154r3.eq_1 ?_;refine(h2 k1 _ []).mono ?_;rintro r h' ⟨G1,L',rfl,hg1,ys,hys,rfl⟩;refine sI ?_;intro _;intros;try refine dU ?_
 refine eI (gG (.head _)) ?_;rintro h' ⟨rfl,A2,c2,rfl,hc2,hm2⟩;intros;refine gR 10 12 c154r4.eq_1 ?_;intros;refine gC ?_;refine gb (fun k2=>?_) (fun k2=>?_)
 ·have k2:¬ (ek x).length≤2048:=by have:=Kb k2;omega
  intros;refine gR 0 0 c154r5.eq_1 ?_;intros;refine dT ?_;refine dW (ew none 5 1) ?_;refine ea (ee _ rfl (.cons_cons _ Ka) (dV dS) ?_);have he:=AW k1 k2;rw[xn (by rw[he];decide),he];exact⟨_,rfl,[],.nil,rfl⟩
 ·have k2:(ek x).length≤2048:=by have:=Kc k2;omega
  intros;refine gN ?_;intros;refine gR 13 14 c154r6.eq_1 ?_;intros;refine dT ?_;refine ea (ee _ rfl (.cons_cons _ Ka) (dV dS) ?_);rw[wo (AB k1 k2)];exact⟨_,rfl,ys,hys,rfl⟩
theorem uF(x:Batch)(cs:JU)(G:JT)(hx:BE G x cs):FnS Tryz.prog 73 #[.agg cs.toArray] G (.int .i64 (fF x)):=by
 have h1:=CH x cs G hx;have h2:=yt x cs G hx;obtain⟨A,c,rfl,-⟩:=hx;refine F73.fnS (by simp) (d7 ?_);unfold c73;unfold fo at h1 h2 ⊢;intros;refine gR 0 0 c73r0.eq_1 ?_;intros;refine gR 3 5 c73r1.eq_1 ?_;refine fK (h1 _ _) ?_;intros;refine gC ?_;refine gb (fun k1=>?_) (fun k1=>?_)
 ·have k1:¬ iP x:=by simpa using k1
  intros;refine gR 0 0 c73r2.eq_1 ?_;intros;refine rW ?_;rw[vl k1]
 have k1:iP x:=by simpa using k1
 intros;refine gN ?_;intros;refine gR 6 9 c73r3.eq_1 ?_;refine(vF (by decide) (h2 k1) _ []).mono ?_;rintro r h' ⟨G1,rfl,hg1,A2,c2,rfl,hc2,hm2,hA2⟩;refine sI ?_;intros;refine gC ?_;refine gb (fun k2=>?_) (fun k2=>?_)
 ·have k2:¬ (ek x).length≤2048:=by have:=Kb k2;omega
  intros;refine gR 0 0 c73r4.eq_1 ?_;intros;refine rW ?_;rw[AW k1 k2]
 ·have k2:(ek x).length≤2048:=by have:=Kc k2;omega
  intros;refine gN ?_;intros;refine gR 0 0 c73r5.eq_1 ?_;intros;refine rW ?_;rw[AB k1 k2]
theorem FH(x:Batch):(DK x).2=fF x:=by
 unfold DK;split
 ·rename_i h;exact h.symm
 ·rfl
theorem lF(x:Batch)(cs:JU)(G:JT)(hx:BE G x cs):FnS Tryz.prog 118 #[.agg cs.toArray] G (.int .i64 (fF x)):=by
 have h1:=oH x cs G hx;obtain⟨A,c,rfl,-⟩:=hx;refine F118.fnS (by simp) (d7 ?_);unfold c118;unfold fo at h1 ⊢;intros;refine gR 0 0 c118r0.eq_1 ?_;intros;refine gR 5 10 c118r1.eq_1 ?_;refine(h1 _ []).mono ?_;rintro r h' ⟨G1,L',rfl,hg1,u,rfl,ys,hys,rfl⟩;refine sI ?_;intros;refine gR 10 11 c118r2.eq_1 ?_;intros;refine rW ?_;rw[FH]
theorem Dk(x:Batch)(cs:JU)(G:JT)(hx:BE G x cs):FnS Tryz.prog 120 #[.agg cs.toArray] G (.int .i64 (Dd x)):=by
 have h1:=oH x cs G hx;obtain⟨A,c,rfl,-⟩:=hx;refine F120.fnS (by simp) (d7 ?_);unfold c120;unfold fo at h1 ⊢;intros;refine gR 0 0 c120r0.eq_1 ?_;intros;refine gR 4 10 c120r1.eq_1 ?_;refine(h1 _ []).mono ?_;rintro r h' ⟨G1,L',rfl,hg1,u,rfl,ys,hys,rfl⟩;refine sI ?_;intro _;intros;try refine dU ?_
 refine eI (gG (.head _)) ?_;rintro h' ⟨rfl,A2,c2,rfl,hc2,hm2⟩;intros;refine gR 10 12 c120r2.eq_1 ?_;intros;refine rW ?_;rfl
theorem F166:Fun Tryz.prog 166 10 v166 c166 o166:=Fun.mkA Tryz.func166 Tryz.ntmps166
theorem F191:Fun Tryz.prog 191 26 v191 c191 o191:=Fun.mkA Tryz.func191 Tryz.ntmps191
theorem F192:Fun Tryz.prog 192 33 v192 c192 o192:=Fun.mkA Tryz.func192 Tryz.ntmps192
theorem F169:Fun Tryz.prog 169 19 v169 c169 o169:=Fun.mkA Tryz.func169 Tryz.ntmps169
theorem pk{α:Type}[BEq α][LawfulBEq α][DecidableEq α](a b:α):(a == b)=decide (a=b):=by by_cases h:a=b <;> simp[h]
theorem oD{G:JT}{v:Value}{l:J3}(hl:SB G v l){h:H}(hG:h.G=G):uD h v ⟨l.toArray⟩:=by
 obtain⟨G',L,D⟩:=h;dsimp only at hG;subst hG;obtain⟨A,c,rfl,hc,hm,hA⟩:=hl;cases A with
 | none =>
  match l,hA with
  | [],_=>exact .inl ⟨c,rfl,rfl⟩
  | x :: xs,hA=>obtain⟨a,_,ha,_⟩:=hA 0 x rfl;cases ha
 | some a =>
  refine .inr ⟨a,c,rfl,fun j u hu=>?_⟩;rw[nr]at hu;simp[sg]at hu;obtain⟨x,hx,rfl⟩:=hu;obtain⟨a',cs,ha,h1,h2,h3⟩:=hA j x hx;cases ha;have:=h3 0 (.int .u8 (x.toNat:Int)) (by rw[h2];rfl);simp at this;exact .g this
theorem Iv(a b:J3):fl .eql (.string ⟨a.toArray⟩) (.string ⟨b.toArray⟩)=some (.bool (decide (a=b))):=by
 have h:fl .eql (.string ⟨a.toArray⟩) (.string ⟨b.toArray⟩)=some (.bool ((ByteArray.mk a.toArray).toList == (ByteArray.mk b.toArray).toList)):=rfl;rw[h,ByteArray.toList_mk,ByteArray.toList_mk,pk]
theorem Ae(l m:J3)(v u:Value)(G:JT)(hl:SB G v l)(hm:SB G u m):FnS Tryz.prog 166 #[v,u] G (.bool (decide (l=m))):=by
 refine F166.fnS (by simp) (d7 ?_);unfold c166;intros;refine gR 0 0 c166r0.eq_1 ?_;intros;refine gR 5 10 c166r1.eq_1 ?_;refine⟨_,oD hl rfl,?_⟩;refine sI ?_;refine⟨_,oD hm rfl,?_⟩;refine sJ @Iv ?_;intros;refine rV ?_;simp only[push_cast,Nat.reduceBEq]
instance decRec (a b:Rec):Decidable (a=b):=decidable_of_iff (a.off=b.off∧a.key=b.key∧a.val=b.val∧a.dead=b.dead∧a.stamp=b.stamp) (by cases a;cases b;simp)
instance decBatch (a b:Batch):Decidable (a=b):=decidable_of_iff (a.base=b.base∧a.last=b.last∧a.src=b.src∧a.epoch=b.epoch∧a.pid=b.pid∧a.gen=b.gen∧a.seq=b.seq∧a.txn=b.txn∧a.ctl=b.ctl∧a.recs=b.recs) (by cases a;cases b;simp)
theorem Et(a b:ByteArray):(a.toList == b.toList)=decide (a=b):=by
 rw[pk,ByteArray.toList_eq,ByteArray.toList_eq];congr 1;apply propext;constructor
 ·intro h;cases a;cases b;simp at h;rw[h]
 ·intro h;rw[h]
theorem Je(a b:Rec):eqC [0,2,2,1,0] (gJ a) (gJ b)=some (decide (a=b)):=by
 have h:(a=b)↔(a.off=b.off∧a.key=b.key∧a.val=b.val∧a.dead=b.dead∧a.stamp=b.stamp):=by cases a;cases b;simp
 simp only[gJ,eqC,if_true,Option.map_some,Et,h];rw[pk a.dead b.dead];simp only[Bool.and_true,Bool.decide_and]
theorem pX{α:Type}[DecidableEq α]{a b:List α}{k:Nat}(hk:k=a.length)(hl:a.length=b.length)(h:a.take k=b.take k):a=b:=by
 subst hk;rw[take_length,hl,take_length]at h;exact h
theorem ku{α:Type}{a b:List α}{k:Nat}{x y:α}(h:a.take k=b.take k)(hx:a[k]?=some x)(hy:b[k]?=some y)(hxy:x=y):a.take (k+1)=b.take (k+1):=by
 have h1:=List.getElem?_eq_some_iff.1 hx;have h2:=List.getElem?_eq_some_iff.1 hy;rw[List.take_succ_eq_append_getElem h1.1,List.take_succ_eq_append_getElem h2.1,h,h1.2,h2.2,hxy]
theorem zK(a b:List Rec)(v u:Value)(G:JT)(ha:SlV G RR 5 v a)(hb:SlV G RR 5 u b):FnS Tryz.prog 191 #[v,u] G (.bool (decide (a=b))):=by
 obtain⟨A,c,rfl,hc,hm,hA⟩:=ha;obtain⟨B,d,rfl,hd,hn,hB⟩:=hb;refine F191.fnS (by simp) (d7 ?_);unfold c191;intros;refine gR 0 0 c191r0.eq_1 ?_;intros;refine gR 6 10 c191r1.eq_1 ?_;intros;refine gC ?_;refine gb (fun h1=>?_) (fun h1=>?_)
 ·have h1:=Kb h1;intros;refine gR 0 0 c191r2.eq_1 ?_;intros;refine rW ?_;rw[decide_eq_false fun h=>h1 (by rw[h])]
 ·have h1:a.length=b.length:=by have:=Kc h1;omega
  intros;refine gN ?_;intros;refine gR 11 12 c191r3.eq_1 ?_;intros;refine dT ?_;refine ej (fun e h=>∃ k:Nat,(k≤a.length∧a.take k=b.take k)∧e 13=.int .i64 k∧e 12=.int .i64 a.length∧e 0=.slice A a.length c∧e 1=.slice B b.length d∧h=⟨G,[],[]⟩) (fun e h=>a.length - iv (e 13)) ?_ ?_
  ·exact⟨0,⟨Nat.zero_le _,rfl⟩,eE,eE,eE,eE,rfl⟩
  ·rintro e h ⟨k,⟨hk,htk⟩,e13,e12,e0,e1,rfl⟩;refine dX [0,1,12,13] ?_;refine sJ4 @e0 @e1 @e12 @e13 ?_;intros;refine gR 0 0 c191r4.eq_1 ?_;intros;refine gC ?_;refine gb (fun h2=>?_) (fun h2=>?_)
   ·have hkl:k < a.length:=by simpa using h2
    have hw3:=eY k c (by omega) hm;obtain⟨x,hx⟩:∃ x,a[k]?=some x:=⟨a[k],getElem?_eq_getElem (by omega)⟩;obtain⟨y,hy⟩:∃ y,b[k]?=some y:=⟨b[k],getElem?_eq_getElem (by omega)⟩;intros;refine gN ?_;intros;refine gR 15 16 c191r5.eq_1 ?_;intros;refine dT ?_;refine pP 16 24 (by decide) ?_;refine sJ c191r6.eq_1 ?_;refine hA.y_ld hx rfl rfl ?_;rintro a1 ha1 cs ⟨rfl,-⟩;refine sI ?_
    refine hB.y_ld hy rfl rfl ?_;rintro a2 ha2 cs ⟨rfl,-⟩;refine sJ @Je ?_;intros;refine gC ?_;refine gb (fun h3=>?_) (fun h3=>?_)
    ·have h3:¬ x=y:=by simpa using h3
     intros;refine gR 0 0 c191r7.eq_1 ?_;intros;refine rW ?_;rw[decide_eq_false fun h=>h3 (by subst h;rw[hx]at hy;cases hy;rfl)]
    ·have h3:x=y:=by simpa using h3
     intros;refine gN ?_;intros;refine gR2 25 26 c191r8.eq_1 @hw3 ?_;intros;refine dT ?_;refine eC ⟨⟨k+1,⟨by omega,ku htk hx hy h3⟩,eE,eE,eE,eE,rfl⟩,?_⟩;refine sI ?_;omega
   ·have hkl:k=a.length:=by simp at h2;omega
    refine eg ?_;refine sI ?_;intros;refine gR 0 0 c191r9.eq_1 ?_;intros;refine rW ?_;rw[decide_eq_true (pX hkl h1 htk)]
theorem BE.recs{G:JT}{x:Batch}{cs:JU}(h:BE G x cs):∃ A c,cs=fo x (.slice A x.recs.length c)∧SlV G RR 5 (.slice A x.recs.length c) x.recs:=by
 obtain⟨A,c,h1,⟨h2,h3,h4⟩,-⟩:=h;exact⟨A,c,h1,A,c,rfl,h2,h3,h4⟩
theorem HR(x y:Batch):decide (x=y)=(decide (x.base=y.base) && decide (x.last=y.last) && decide (x.src=y.src) && decide (x.epoch=y.epoch) && decide (x.pid=y.pid) && decide (x.gen=y.gen) && decide (x.seq=y.seq) && (x.txn == y.txn) && decide (x.ctl=y.ctl) && decide (x.recs=y.recs)):=by
 have h:(x=y)↔(x.base=y.base∧x.last=y.last∧x.src=y.src∧x.epoch=y.epoch∧x.pid=y.pid∧x.gen=y.gen∧x.seq=y.seq∧x.txn=y.txn∧x.ctl=y.ctl∧x.recs=y.recs):=by cases x;cases y;simp
 simp only[h,Bool.decide_and,pk,Bool.and_assoc]
theorem xv(x:Batch)(cs:JU)(G:JT)(hx:BE G x cs):
  FnS Tryz.prog 192 #[.agg cs.toArray] G (.agg #[.int .i64 x.base,.int .i64 x.last,.int .i64 x.src,.int .i64 x.epoch,.int .i64 x.pid,.int .i64 x.gen,.int .i64 x.seq,.int .i64 x.ctl,.int .i64 (if x.txn=true then 1 else 0)]):=by
 obtain⟨A,c,rfl,hA⟩:=hx.recs;refine F192.fnS (by simp) (d7 ?_);unfold c192 fo;intros;refine gR 0 0 c192r0.eq_1 ?_;intros;refine gR 5 7 c192r1.eq_1 ?_;intros;try refine dU ?_
 refine eK (fun e h=>e 3=.int .i64 (if x.txn=true then IntKind.i64.wrap (IntKind.i64.wrap (x.ctl * 2)+1)else IntKind.i64.wrap (x.ctl * 2))∧h=⟨G,[.reg 2 [.int .i64 0,.int .i64 0,.int .i64 0,.int .i64 0,.int .i64 0,.int .i64 0,.int .i64 0,.int .i64 0,.int .i64 0],.reg 1 [.int .i64 x.base,.int .i64 x.last,.int .i64 x.src,.int .i64 x.epoch,.int .i64 x.pid,.int .i64 x.gen,.int .i64 x.seq,.bool x.txn,.int .i64 x.ctl,.slice A x.recs.length c]],[]⟩) ?_ ?_
 ·intros;refine gR 0 0 c192r2.eq_1 ?_;intros;refine gC ?_;refine gb (fun k1=>?_) (fun k1=>?_)
  ·intros;refine gR 9 11 c192r3.eq_1 ?_;intros;refine dT ?_;refine eC ⟨?_,rfl⟩;rw[if_pos k1]
   (refine sI ?_;try with_reducible exact True.intro)
  ·intros;refine dT ?_;refine eC ⟨?_,rfl⟩;rw[if_neg (by rw[k1];simp)]
   (refine sI ?_;try with_reducible exact True.intro)
 rintro e h ⟨e3,rfl⟩;refine dX [3] ?_;refine sJ @e3 ?_;have hw:IntKind.i64.wrap ((if x.txn=true then IntKind.i64.wrap (IntKind.i64.wrap (x.ctl * 2)+1)else IntKind.i64.wrap (x.ctl * 2)) - IntKind.i64.wrap (x.ctl * 2))=(if x.txn=true then 1 else 0):=by
  simp only[IntKind.wrap_i64];split <;> omega
 intros;refine gr 12 33 ?_;(try simp -implicitDefEqProofs only[mz,mE,push_cast,Nat.reduceBEq,Nat.reduceAdd,Nat.reduceSub,Nat.reduceMul,Nat.reduceLT,Nat.reduceLeDiff,Nat.reduceEqDiff,reduceIte,Bool.not_true,Bool.not_false,true_and,and_true,Option.map_some,Option.bind_some,Int.toNat_natCast,c192r4,hw]);intros;refine rV ?_;simp only[push_cast,Nat.reduceBEq]
theorem CK(x y:Batch)(cs ds:JU)(G:JT)(hx:BE G x cs)(hy:BE G y ds):FnS Tryz.prog 169 #[.agg cs.toArray,.agg ds.toArray] G (.bool (decide (x=y))):=by
 have hhx:=xv x cs G hx;have hhy:=xv y ds G hy;obtain⟨A,c,rfl,hA⟩:=hx.recs;obtain⟨B,d,rfl,hB⟩:=hy.recs;refine F169.fnS (by simp) (d7 ?_);unfold c169;unfold fo at hhx hhy ⊢;intros;refine gR 0 0 c169r0.eq_1 ?_;intros;refine gR 7 11 c169r1.eq_1 ?_;refine fK (zK _ _ _ _ _ hA hB _ _) ?_;intros;refine gC ?_;refine gb (fun k1=>?_) (fun k1=>?_)
 ·have k1:¬ x.recs=y.recs:=by simpa using k1
  intros;refine gR 0 0 c169r2.eq_1 ?_;intros;refine rW ?_;rw[decide_eq_false fun h=>k1 (by rw[h])]
 have k1:x.recs=y.recs:=by simpa using k1
 intros;refine gN ?_;intros;refine gR 0 0 c169r3.eq_1 ?_;intros;refine dT ?_;refine ly _ J9 (by decide) ?_;refine sJ c169r4.eq_1 ?_;refine .inl ⟨_,_,rfl,?_⟩;refine fK (hhx _ _) ?_;refine .inl ⟨_,_,rfl,?_⟩;refine fK (hhy _ _) ?_;intros;refine rW ?_;rw[HR,k1];cases x.txn <;> cases y.txn <;> simp[Bool.and_assoc]
instance decI64 (n:Int):Decidable (I64 n):=by
 unfold I64
 infer_instance
end Go.Proofs.YtpmofpekcbghnaaGreat

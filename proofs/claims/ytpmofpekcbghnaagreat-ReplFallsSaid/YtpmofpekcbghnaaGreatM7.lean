/- Parts of a proof, 15 texts in one file. No condition. -/
import Derived.Test.YtpmofpekcbghnaaGreatM1
import Derived.Test.YtpmofpekcbghnaaGreatM2
import Derived.Test.YtpmofpekcbghnaaGreatM3
import Derived.Test.YtpmofpekcbghnaaGreatM4
import Derived.Test.YtpmofpekcbghnaaGreatM5
import Derived.Test.YtpmofpekcbghnaaGreatM6
set_option linter.unusedSimpArgs false
set_option linter.unusedVariables false
namespace Go.Proofs.YtpmofpekcbghnaaGreat
open Go Go.Kx
open List (getElem?_eq_getElem mem_of_getElem? length_append append_nil take_length)
theorem F76:Fun Tryz.prog 76 6 v76 c76 o76:=Fun.mkA Tryz.func76 Tryz.ntmps76
theorem F130:Fun Tryz.prog 130 40 v130 c130 o130:=Fun.mkA Tryz.func130 Tryz.ntmps130
theorem F129:Fun Tryz.prog 129 13 v129 c129 o129:=Fun.mkA Tryz.func129 Tryz.ntmps129
theorem F75:Fun Tryz.prog 75 5 v75 c75 o75:=Fun.mkA Tryz.func75 Tryz.ntmps75
theorem F27:Fun Tryz.prog 27 11 v27 c27 o27:=Fun.mkA Tryz.func27 Tryz.ntmps27
def EBx(G:Ks)(x:Batch)(args:Array Value):Prop:=∃ cs,BE G x cs∧args=#[.agg cs.toArray]
theorem zo{l:List Sg}{k:Nat}{s:Sg}(h:l[k]?=some s):bsS (l.take (k+1))=bsS (l.take k)++fi s:=by
 rw[eR h,nQ,kF,o8,append_nil]
theorem wh(off:Int)(x:Batch):gz off [x]=if off≤x.last then[x]else[]:=by
 unfold gz;by_cases h:off≤x.last <;> simp[h]
theorem AN{off:Int}{l:List Sg}{k j:Nat}{s:Sg}{x:Batch}(hs:l[k]?=some s)(hx:(fi s)[j]?=some x)(hf:off≤x.last):
  (gz off (bsS l))[(gz off (bsS (l.take k))).length+(gz off ((fi s).take j)).length]?=some x:=by
 have e1:bsS l=bsS (l.take k)++(((fi s).take j++x :: (fi s).drop (j+1))++bsS (l.drop (k+1))):=by
  rw[← uf hx,← kF,← nQ,← uf hs]
 have e2:gz off (x :: (fi s).drop (j+1))=x :: gz off ((fi s).drop (j+1)):=by
  unfold gz;rw[List.filter_cons,if_pos (by simp[hf])]
 rw[e1,jv,jv,jv,e2];simp
set_option maxHeartbeats 1000000 in
theorem ph(l:Lg)(off:Int)(A:Ky)(c b1 b2:Nat)(G0:Ks)(hl:SlV G0 (SE G0) 2 (.slice A l.segs.length c) l.segs)(hb:smL l.segs)(h1:fB G0 ⟨b1,2,none⟩=some (.slice A l.segs.length c))(h2:fB G0 ⟨b2,0,none⟩=some (.int .i64 off)):
  kZ Tryz.prog 130 #[.pointer (some ⟨b1,0,none⟩),.pointer (some ⟨b2,0,none⟩)] (gz off (bsS l.segs)) EBx G0:=by
 intro yl I Ix G L hG hn hI hIx hmo hi0 hy L2 D;have hargs:(#[.func (.yield yl) #[] #[]]++#[.pointer (some ⟨b1,0,none⟩),.pointer (some ⟨b2,0,none⟩)]:Array Value)=#[.func (.yield yl) #[] #[],.pointer (some ⟨b1,0,none⟩),.pointer (some ⟨b2,0,none⟩)]:=rfl;rw[hargs];have hat:=fun k j s x=>@AN off l.segs k j s x
 have htot:(gz off (bsS (l.segs.take l.segs.length))).length=(gz off (bsS l.segs)).length:=by rw[take_length]
 generalize gz off (bsS l.segs)=T at *;refine(F130.calls (R:=fun _ h=>Gle G h.G∧(I T.length h.G h.L∨∃ i,i < T.length∧Ix i h.G h.L)) (by simp) hn (dY ?_) L2 D).mono ?_;rotate_left
 ·rintro v h' ⟨G',L',rfl,hn',hgg,hr⟩;exact⟨G',L',rfl,hgg,hn',hr⟩
 have e1:=em hG h1;have e2:=em hG h2;have hlG:=SlSE.le hG hl;obtain⟨A0,c0,he,hc,hmx,hA⟩:=id hlG;cases he;unfold c130;intros;refine gR 10 11 c130r0.eq_1 ?_;refine⟨_,⟨_,rfl,.g e1⟩,?_⟩;refine sI ?_;intros;refine dT ?_
 refine ej (fun e h=>∃ (k:Nat) (G':Ks) (L' Lh:Kv),(k≤l.segs.length∧Gle G G'∧eC L'∧I (gz off (bsS (l.segs.take k))).length G' L')∧e 13=.int .i64 k∧e 12=.int .i64 l.segs.length∧e 11=.slice A l.segs.length c∧e 0=.func (.yield yl) #[] #[]∧e 2=.pointer (some ⟨b2,0,none⟩)∧h=⟨G',Lh,[]⟩∧L'.Sublist Lh) (fun e h=>l.segs.length - iv (e 13)) ?_ ?_
 ·exact⟨0,G,L,L,⟨Nat.zero_le _,.refl G,hn,hi0⟩,eE,eE,eE,eE,eE,rfl,List.Sublist.refl _⟩
 rintro e h ⟨k,G',L',Lh,⟨hk,hgg,hn',hI'⟩,e13,e12,e11,e00,e22,rfl,hsub⟩;refine dV [0,2,11,12,13] ?_;refine sJ5 @e00 @e22 @e11 @e12 @e13 ?_;intros;refine dU (dX hsub) ?_;have hrm5:=lI (s:=5) hn';intros;refine gR 0 0 c130r1.eq_1 ?_;intros;refine gC ?_;refine gb (fun ht=>?_) (fun ht=>?_)
 ·have ht:k < l.segs.length:=by have:=KM ht;omega
  have hw:=eW k c (by omega) hmx;obtain⟨s,hs⟩:∃ s,l.segs[k]?=some s:=⟨l.segs[k],getElem?_eq_getElem (by omega)⟩;have hbs:=hb s (mem_of_getElem? hs);have hlG':=SlSE.le hgg hlG;obtain⟨A0,c0,he,-,-,hA'⟩:=hlG';cases he;intros;refine gN ?_;intros;refine gR 15 17 c130r2.eq_1 ?_;refine hA'.x_ld hs rfl rfl ?_;rintro a1 ha1 cs hse;have hscan:=pi s cs G' hse (by omega);obtain⟨B,d,rfl,hsb,hsi⟩:=hse
  unfold gh at hscan ⊢;refine sJ @hrm5 ?_;intros;refine gR 17 22 c130r3.eq_1 ?_;refine(hscan _ _).mono ?_;rintro r h' ⟨G1,L1,rfl,hg1,u,zc,rfl,hzc,rfl⟩;refine sI ?_;intros;try refine ed ?_
  refine eI (eh [] _ (by decide) hzc) ?_;rintro h' ⟨G2,rfl,hg2,hv2⟩;have hv2:SlV G2 (BE G2) 10 u (fi s):=hv2.le (.refl _) fun _ _ h=>BE.le hg2 h
  have hbt:=zo hs;have hat':=fun j x=>hat k j s x hs
  obtain⟨rr,hsc⟩:=fD s;have hlen:=hsc.len;generalize fi s=bs at *;obtain⟨A2,c2,rfl,hc2,hm2,hA2⟩:=hv2;have hgg2:=hgg.trans (hg1.trans hg2);have hI2:=hmo _ _ _ _ (hg1.trans hg2) hI';intros;refine gR 0 0 c130r4.eq_1 ?_;intros
  refine eL (fun e h=>∃ (G':Ks) (L' Lh:Kv),(Gle G G'∧eC L'∧I (gz off (bsS (l.segs.take (k+1)))).length G' L')∧e 13=.int .i64 k∧e 12=.int .i64 l.segs.length∧e 11=.slice A l.segs.length c∧e 0=.func (.yield yl) #[] #[]∧e 2=.pointer (some ⟨b2,0,none⟩)∧h=⟨G',Lh,[]⟩∧L'.Sublist Lh) ?_ ?_
  ·intros;refine dT ?_
   refine ej (fun e h=>∃ (j:Nat) (G':Ks) (L' Lh:Kv),(j≤bs.length∧Gle G2 G'∧eC L'∧I ((gz off (bsS (l.segs.take k))).length+(gz off (bs.take j)).length) G' L')∧e 24=.int .i64 j∧e 23=.int .i64 bs.length∧e 22=.slice A2 bs.length c2∧e 13=.int .i64 k∧e 12=.int .i64 l.segs.length∧e 11=.slice A l.segs.length c∧e 0=.func (.yield yl) #[] #[]∧e 2=.pointer (some ⟨b2,0,none⟩)∧h=⟨G',Lh,[]⟩∧L'.Sublist Lh) (fun e h=>bs.length - iv (e 24)) ?_ ?_
   ·exact⟨0,G2,L',_,⟨Nat.zero_le _,.refl _,hn',hI2⟩,eE,eE,eE,eE,eE,eE,eE,eE,rfl,.cons _ KJ⟩
   rintro e h ⟨j,G3,L3,Lh,⟨hj,hg3,hn3,hI3⟩,e24,e23,e22',e13,e12,e11,e00,e22,rfl,hsub⟩;refine dV [0,2,11,12,13,22,23,24] ?_
   (try simp -implicitDefEqProofs only[mg,mf,push_cast,Nat.reduceBEq,Nat.reduceAdd,Nat.reduceSub,Nat.reduceMul,Nat.reduceLT,Nat.reduceLeDiff,Nat.reduceEqDiff,reduceIte,Bool.not_true,Bool.not_false,true_and,and_true,Option.map_some,Option.bind_some,Int.toNat_natCast,e00,e22,e11,e12,e13,e22',e23,e24])
   intros;refine dU (dX hsub) ?_;have hrm9:=lI (s:=9) hn3;have e2':=em (hgg2.trans hg3) e2;intros;refine gR 0 0 c130r5.eq_1 ?_;intros;refine gC ?_;refine gb (fun ht2=>?_) (fun ht2=>?_)
   ·have ht2:j < bs.length:=by have:=KM ht2;omega
    have hw2:=eW j c2 (by omega) hm2;obtain⟨x,hx⟩:∃ x,bs[j]?=some x:=⟨bs[j],getElem?_eq_getElem (by omega)⟩;have hA3:=hA2.le hg3 (E':=BE G3) fun _ _ h=>BE.le hg3 h
    have hrt:gz off (bs.take (j+1))=gz off (bs.take j)++(if off≤x.last then[x]else[]):=by rw[eR hx,jv,wh]
    intros;refine gN ?_;intros;refine gR 26 28 c130r6.eq_1 ?_;refine hA3.x_ld hx rfl rfl ?_;rintro a3 ha3 cs hbe;have hbe0:=hbe;obtain⟨B3,d3,rfl,-⟩:=hbe;unfold fu at hbe0 ⊢;refine sJ @hrm9 ?_;intros;refine gR 29 37 c130r7.eq_1 ?_;refine⟨_,⟨_,rfl,.g e2'⟩,?_⟩;refine sI ?_;refine gdD (fun k1=>?_) (fun k1=>?_)
    ·rw[if_pos k1]at hrt;have hlen2:(gz off (bsS (l.segs.take k))).length+(gz off (bs.take j)).length+1=(gz off (bsS (l.segs.take k))).length+(gz off (bs.take (j+1))).length:=by rw[hrt,length_append];rfl
     have hxT:=hat' j x hx k1;refine sI ?_;refine .inr ⟨yl,rfl,?_⟩;refine jo.ghost (eO (List.perm_append_comm (l₁:=[_]))) ?_;refine(hy _ x _ G3 L3 hxT (hgg2.trans hg3) ⟨_,hbe0,rfl⟩ hI3 [_] []).mono ?_;rintro v h' ⟨G4,L4,rfl,hg4,hn4,hr⟩;rcases hr with⟨rfl,hr⟩ | ⟨rfl,hr⟩
     ·refine sI ?_;intros;refine gC ?_;refine dU (dX (List.sublist_append_left _ _)) ?_;intros;refine gR2 38 39 c130r8.eq_1 @hw2 ?_;intros;refine dT ?_;rw[hlen2]at hr;refine eF ⟨⟨j+1,G4,L4,_,⟨by omega,hg3.trans hg4,hn4,hr⟩,eE,eE,eE,eE,eE,eE,eE,eE,rfl,List.Sublist.refl _⟩,?_⟩;refine sI ?_;omega
     ·refine sI ?_;intros;refine gC ?_;intros;refine dT ?_;refine ea (ee L4 rfl (List.sublist_append_left _ _) hn4 ?_);exact⟨hgg2.trans (hg3.trans hg4),.inr ⟨_,(List.getElem?_eq_some_iff.1 hxT).1,hr⟩⟩
    ·rw[if_neg k1,append_nil]at hrt;refine sI ?_;intros;refine gC ?_;refine dU (dX (L':=L3) (.cons _ KJ)) ?_;intros;refine gR2 38 39 c130r8.eq_1 @hw2 ?_;intros;refine dT ?_;refine eF ⟨⟨j+1,G3,L3,_,⟨by omega,hg3,hn3,by rw[hrt];exact hI3⟩,eE,eE,eE,eE,eE,eE,eE,eE,rfl,List.Sublist.refl _⟩,?_⟩;refine sI ?_;omega
   ·have ht2:j=bs.length:=by have:=KN ht2;omega
    subst ht2;rw[take_length]at hI3;refine eg ?_;refine sI ?_;intros;refine gN ?_;exact eF ⟨G3,L3,_,⟨hgg2.trans hg3,hn3,by rw[hbt,jv,length_append];exact hI3⟩,eE,eE,eE,eE,eE,rfl,List.Sublist.refl _⟩
  rintro e h ⟨G3,L3,Lh,⟨hg3,hn3,hI3⟩,e13,e12,e11,e00,e22,rfl,hsub⟩;refine dV [0,2,11,12,13] ?_;refine sJ5 @e00 @e22 @e11 @e12 @e13 ?_;intros;refine dU (dX hsub) ?_;intros;refine gR2 39 40 c130r9.eq_1 @hw ?_;intros;refine dT ?_;refine eF ⟨⟨k+1,G3,L3,_,⟨by omega,hg3,hn3,hI3⟩,eE,eE,eE,eE,eE,rfl,List.Sublist.refl _⟩,?_⟩;refine sI ?_;omega
 ·have ht:k=l.segs.length:=by have:=KN ht;omega
  subst ht;rw[htot]at hI';refine eg ?_;refine sI ?_;intros;refine dT ?_;refine gD ?_;exact⟨[],rfl,⟨G',L',[]⟩,dX KJ,hn',hgg,.inl hI'⟩
theorem u6(l:Lg)(off:Int)(cs:Kt)(G:Ks)(hl:LE G l cs)(hb:smL l.segs):
  FnD Tryz.prog 76 #[.agg cs.toArray,.int .i64 off] G (fun G' r=>∃ b1 b2,r=.func (.func 130) #[] #[.pointer (some ⟨b1,0,none⟩),.pointer (some ⟨b2,0,none⟩)]∧kZ Tryz.prog 130 #[.pointer (some ⟨b1,0,none⟩),.pointer (some ⟨b2,0,none⟩)] (gz off (bsS l.segs)) EBx G'):=by
 obtain⟨A,c,rfl,hsl,hi,hj⟩:=hl;refine F76.fnD (by simp) (dY ?_);unfold c76 eG;intros;refine gR 0 0 c76r0.eq_1 ?_;intro b1 hb1 b2 hb2;intros;refine dT ?_;refine eI jx ?_;rintro h' ⟨G1,rfl,hg1,f2⟩;refine eI jx ?_;rintro h' ⟨G2,rfl,hg2,f1⟩;have e1:=f1 2 _ rfl;have e2:=em hg2 (f2 0 _ rfl);rw[eV]at e1 e2;intros;refine gR 5 6 c76r1.eq_1 ?_;intros;refine rW ?_
 exact⟨b1,b2,rfl,ph l off A c b1 b2 G2 (SlSE.le (hg1.trans hg2) hsl) hb e1 e2⟩
theorem qI(T:KE)(gf:Nat)(cap:Array Value)(G:Ks)(hit:kZ Tryz.prog gf cap T EBx G)(hEn:iy Tryz.prog gf)(hT:T.length≤1000000):
  FnO Tryz.prog 129 #[.slice none 0 0,.func (.func gf) #[] cap] G [] (fun G' L' r=>ya (BE G') 43 10 T L' r):=by
 refine F129.fnO (by simp) dS (dY ?_);unfold c129;intros;refine gR 0 0 c129r0.eq_1 ?_;intro b2 hb2;intros;refine gR 0 0 c129r1.eq_1 ?_;intros;refine dT ?_;refine dU (eA none 43 10) ?_;refine sn (α:=Batch) (fun k G' L'=>∃ u zc,L'=[.row u 43 10 (T.take k).length zc,.blk b2 [u]]∧Cells (BE G') 10 (T.take k) zc) (fun _ _ _ _=>False) (eE) hEn (dW (ec dS))
  (fun i G G' L hg ⟨u,zc,h1,h2⟩=>⟨u,zc,h1,fa h2 fun _ _ h=>BE.le hg h⟩) hit (fun G x args h=>by obtain⟨_,_,rfl⟩:=h;rfl) ⟨_,[],rfl,.nil⟩ ?_ ?_ ?_
 ·rintro yl k x args G' L' hx hgl ⟨cs,hbe,rfl⟩ ⟨u,zc,rfl,hzc⟩ _;have hkl:k < T.length:=(List.getElem?_eq_some_iff.1 hx).1;have hbe0:=hbe;obtain⟨B,d,rfl,-⟩:=hbe;unfold fu at hbe0 ⊢;refine sI ?_;intros;refine gR 0 0 c129r2.eq_1 ?_;intro bb;refine gD (rS ?_);have htk:T.take (k+1)=T.take k++[x]:=eR hx;have hkl2:(T.take k).length≤T.length:=by rw[List.length_take];omega
  have hkl3:(T.take k).length=k:=by rw[List.length_take];omega
  intros;refine gR 8 12 c129r3.eq_1 ?_;refine⟨_,dZ (.tail _ (.tail _ (.head _))) rfl,?_⟩;refine sI ?_;intro bk hbk;refine xj (L1:=[_]) (L2:=[_]) (E:=BE G') (x:=x) rfl hbe0 rfl (by simp[Value.oneCell']) hzc (by omega) (by omega) fun A' c' zc' hzc'=>?_
  rw[← htk]at hzc' ⊢;refine sI ?_;refine ek [_,_,_] [] rfl (by simp) ⟨rfl,rfl⟩ ?_;refine sI ?_;intros;refine dT ?_;refine gD (rk _ (.cons _ (.cons _ KJ)) (dW (ec dS)) ⟨_,zc',rfl,hzc'⟩)
 ·rintro G' L' dd hgl ⟨u,zc,rfl,hzc⟩ _;rw[take_length]at hzc ⊢;refine jg ?_;intros;refine gR 12 13 c129r4.eq_1 ?_;refine⟨_,dZ (.tail _ (.head _)) rfl,?_⟩;refine sI ?_;intros;refine dT ?_;refine ea (ee _ rfl (.cons_cons _ KL) (dW dS) ?_);exact⟨zc,hzc,rfl⟩
 ·rintro ex i G' L' d _ _ h;exact h.elim
theorem uO(T:KE)(gf:Nat)(cap:Array Value)(G:Ks)(hit:kZ Tryz.prog gf cap T EBx G)(hEn:iy Tryz.prog gf)(hT:T.length≤1000000):
  FnO Tryz.prog 75 #[.func (.func gf) #[] cap] G [] (fun G' L' r=>ya (BE G') 43 10 T L' r):=by
 refine F75.fnO (by simp) dS (dY ?_);unfold c75;intros;refine gR 0 0 c75r0.eq_1 ?_;intros;refine gR 3 5 c75r1.eq_1 ?_;refine(qI T gf cap G hit hEn hT _ _).mono ?_;rintro r h' ⟨G1,L',rfl,hg1,zc,hzc,rfl⟩;refine sI ?_;intros;refine dT ?_;refine ea (ee _ rfl KJ (dW dS) ?_);exact⟨zc,hzc,rfl⟩
theorem zb(l:KE):9 * l.length≤(fN l).length:=by
 induction l with
 | nil=>simp
 | cons x l ih =>
  have:=g0 x;rw[gH,length_append,List.length_cons];omega
theorem Da{l:Lg}(h:fS l=0):(fN (bsS l.segs)).length≤1048576:=by
 obtain⟨h1,h2,h3,h4⟩:=ib h;have h5:=(gM.1 h1).1.2;have h6:=wg h3;have h7:=vM h3;have h9:l.limit * (l.segs.length:Int)≤4096 * 256:=Int.mul_le_mul h5 (by omega) (by omega) (by omega);omega
theorem wP{l:Lg}(off:Int)(h:fS l=0):(fN (gz off (bsS l.segs))).length≤1048576∧(gz off (bsS l.segs)).length≤1000000:=by
 have h1:=Da h;have h2:=ww off (bsS l.segs);have h3:=zb (gz off (bsS l.segs));omega
theorem Be(l:Lg)(cs:Kt)(G:Ks)(hl:LE G l cs)(hb:smL l.segs):FnD Tryz.prog 27 #[.agg cs.toArray] G (fun G' r=>SlV G' (BE G') 10 r (nj l)):=by
 have hl0:=hl;have hchk:=jY l cs G hl;obtain⟨A,c,rfl,hsl,hi,hj⟩:=hl;refine F27.fnD (by simp) (dY ?_);unfold c27;unfold eG at hchk hl0 ⊢;intros;refine gR 0 0 c27r0.eq_1 ?_;intros;refine gR 3 5 c27r1.eq_1 ?_;refine fK (hchk _ _) ?_;intros;refine gC ?_;refine gb (fun k1=>?_) (fun k1=>?_)
 ·have k1:=KM k1;intros;refine gR 0 0 c27r2.eq_1 ?_;intros;refine rW ?_;rw[nj,if_neg k1];exact slN
 have k1:fS l=0:=by simpa using k1
 intros;refine gN ?_;intros;refine gR 6 11 c27r3.eq_1 ?_;refine(u6 l l.start _ G hl0 hb _ _).mono ?_;rintro r h' ⟨G1,rfl,hg1,b1,b2,rfl,hit⟩;refine sI ?_;refine(uO _ _ _ G1 hit F130.enters (wP _ k1).2 _ _).mono ?_;rintro r h' ⟨G2,L',rfl,hg2,zc,hzc,rfl⟩;refine sI ?_;intros;try refine ed ?_
 refine eI (eh [] _ (by decide) hzc) ?_;rintro h' ⟨G3,rfl,hg3,hv3⟩;intros;refine rW ?_;rw[nj,if_pos k1];exact hv3.le (.refl _) fun _ _ h=>BE.le hg3 h
theorem F188:Fun Tryz.prog 188 22 v188 c188 o188:=Fun.mkA Tryz.func188 Tryz.ntmps188
theorem F189:Fun Tryz.prog 189 33 v189 c189 o189:=Fun.mkA Tryz.func189 Tryz.ntmps189
theorem F167:Fun Tryz.prog 167 12 v167 c167 o167:=Fun.mkA Tryz.func167 Tryz.ntmps167
def GQ(l:Lg)(off:Int)(p:Lg):Lg × Int:=if fS l=0 then if AM l off=true then(p,0)else(hH,90)else(hH,fS l)
def LgV(p:Lg)(G:Ks)(r:Value):Prop:=∃ cs,r=.agg cs.toArray∧LE G p cs
theorem FI(l:Lg)(off:Int)(f:Nat)(cap:Array Value)(p:Lg)(cs:Kt)(G:Ks)(hl:LE G l cs)(hb:smL l.segs)(hm:l.segs.length≤1000000)
  (hf:fS l=0→AM l off=true→FnD Tryz.prog f cap G (LgV p)) :
  FnD Tryz.prog 188 #[.agg cs.toArray,.int .i64 off,.func (.func f) #[] cap] G (LgR (GQ l off p)):=by
 have hl0:=hl;have hchk:=jY l cs G hl;have hbt:=uU l off cs G hl hb;obtain⟨A,c,rfl,hsl,hi,hj⟩:=hl;refine F188.fnD (by simp) (dY ?_);unfold c188;unfold eG at hchk hbt hl0 ⊢;intros;refine gR 0 0 c188r0.eq_1 ?_;intros;refine gR 9 11 c188r1.eq_1 ?_;refine fK (hchk _ _) ?_;intros;refine gR 11 12 c188r2.eq_1 ?_;intros;refine gC ?_;refine gb (fun k1=>?_) (fun k1=>?_)
 ·have k1:=KM k1;intros;refine gR 13 15 c188r3.eq_1 ?_;intros;refine rW ?_;rw[GQ,if_neg k1];exact gV
 have k1:fS l=0:=by simpa using k1
 obtain⟨c1,c2,c3,c4⟩:=ib k1;intros;refine gN ?_;intros;refine gR 15 18 c188r4.eq_1 ?_;refine fK (hbt c2 hm _ _) ?_;intros;refine gC ?_;refine gb (fun k2=>?_) (fun k2=>?_)
 ·have k2:AM l off=false:=by simpa using k2
  intros;refine gR 19 20 c188r5.eq_1 ?_;intros;refine rW ?_;rw[GQ,if_pos k1,if_neg (by rw[k2];simp)];exact gV
 have k2:AM l off=true:=by simpa using k2
 intros;refine gN ?_;intros;refine gR 20 22 c188r6.eq_1 ?_;refine .inl ⟨f,cap,rfl,?_⟩;rw[show(#[]++cap:Array Value)=cap by simp];refine(hf k1 k2 _ _).mono ?_;rintro r h' ⟨G1,rfl,hg1,cs,rfl,hle⟩;obtain⟨A1,c1,rfl,hs1⟩:=hle;unfold eG;refine sI ?_;intros;refine rW ?_;rw[GQ,if_pos k1,if_pos k2];exact⟨_,rfl,A1,c1,rfl,hs1⟩
def gl{α:Type}(p:α→Bool):List α→Nat→Int
 | [],_=>-1
 | x :: l,i=>if p x=true then(i:Int)else gl p l (i+1)
theorem nL{α:Type}{p:α→Bool}{l:List α}{k:Nat}{x:α}(h:l[k]?=some x)(i:Nat):gl p (l.drop k) i=if p x=true then(i:Int)else gl p (l.drop (k+1)) (i+1):=by
 obtain⟨h1,h2⟩:=List.getElem?_eq_some_iff.1 h;rw[List.drop_eq_getElem_cons h1,h2,gl]
theorem Dv{P:Program}{f:FuncId}{args:Array Value}{G:Ks}{s:Sg}(hf:FnO P f args G [] (fun _ L' r=>yO s L' r)):FnD P f args G (fun G' r=>∃ A c,r=.agg #[.int .i64 s.base,.slice A s.bytes.length c]∧SB G' (.slice A s.bytes.length c) s.bytes) :=
 FnO.fnD (L1:=[]) (pJ hf) fun G' L' v ⟨A,c,zc,h1,_,h2,h3⟩ _ L D=>by
  subst h2;exact(kA (by decide) h3).mono fun h' ⟨G2,e1,e2,e3⟩=>⟨G2,e1,e2,A,c,h1,e3⟩
theorem wA{l:List Sg}{k:Nat}{s:Sg}(to:Int)(h:l[k]?=some s):sC (l.take (k+1)) to=sC (l.take k) to++if s.base < to then[BV s to]else[]:=by
 unfold sC;rw[eR h,List.filter_append,List.map_append];congr 1;by_cases hh:s.base < to <;> simp[hh]
theorem tV(l:List Sg)(to:Int):(sC l to).length≤l.length:=by
 unfold sC;rw[List.length_map];exact List.length_filter_le _ _
theorem qp(l:Lg)(to:Int)(A:Ky)(c b2 b3:Nat)(G:Ks)(hsl:SlV G (SE G) 2 (.slice A l.segs.length c) l.segs)(hi:I64 l.limit)(hj:I64 l.start)(hb:smL l.segs)(hm:l.segs.length≤1000)(hto:I64 to)
  (h2:∀ j u,([.int .i64 l.limit,.int .i64 l.start,.slice A l.segs.length c]:Kt)[j]?=some u→fB G (Addr.add ⟨b2,0,none⟩ j)=some u) (h3:fB G ⟨b3,0,none⟩=some (.int .i64 to)) :
  FnD Tryz.prog 189 #[.pointer (some ⟨b2,0,none⟩),.pointer (some ⟨b3,0,none⟩)] G (LgV ⟨l.limit,l.start,uV l.segs to⟩):=by
 have hsl0:=hsl;have h22:=h2 2 _ rfl;rw[eV]at h22;obtain⟨A0,c0,he,hc,hmx,hA⟩:=hsl;cases he;refine F189.fnD (by simp) (dY ?_);unfold c189;intros;refine gR 0 0 c189r0.eq_1 ?_;intros;refine gR 0 0 c189r1.eq_1 ?_;intros;refine gR 6 7 c189r2.eq_1 ?_;refine⟨_,⟨_,rfl,.g h22⟩,?_⟩;refine sI ?_;intros;refine dU (eA none 120 2) ?_
 refine eL (fun e h=>∃ (G':Ks) (u:Value) (zc:Kt),(Gle G G'∧Cells (SE G') 2 (sC l.segs to) zc)∧e 3=u∧e 0=.pointer (some ⟨b2,0,none⟩)∧e 1=.pointer (some ⟨b3,0,none⟩)∧h=⟨G',[.row u 120 2 (sC l.segs to).length zc,.reg 2 [.int .i64 0,.int .i64 0,.slice none 0 0]],[]⟩) ?_ ?_
 ·intros;refine dT ?_
  refine ej (fun e h=>∃ (k:Nat) (G':Ks) (u:Value) (zc:Kt),(k≤l.segs.length∧Gle G G'∧Cells (SE G') 2 (sC (l.segs.take k) to) zc)∧e 9=.int .i64 k∧e 8=.int .i64 l.segs.length∧e 7=.slice A l.segs.length c∧e 3=u∧e 0=.pointer (some ⟨b2,0,none⟩)∧e 1=.pointer (some ⟨b3,0,none⟩)∧h=⟨G',[.row u 120 2 (sC (l.segs.take k) to).length zc,.reg 2 [.int .i64 0,.int .i64 0,.slice none 0 0]],[]⟩) (fun e h=>l.segs.length - iv (e 9)) ?_ ?_
  ·exact⟨0,G,.slice none 0 0,[],⟨Nat.zero_le _,.refl _,.nil⟩,eE,eE,eE,eE,eE,eE,rfl⟩
  rintro e h ⟨k,G',u,zc,⟨hk,hg',hzc⟩,e9,e8,e7,e3,e0,e1,rfl⟩;refine dV [0,1,3,7,8,9] ?_;refine sJ6 @e0 @e1 @e3 @e7 @e8 @e9 ?_;intros;refine gR 0 0 c189r3.eq_1 ?_;intros;refine gC ?_;refine gb (fun ht=>?_) (fun ht=>?_)
  ·have ht:k < l.segs.length:=by have:=KM ht;omega
   have hw:=eW k c (by omega) hmx;obtain⟨s,hs⟩:∃ s,l.segs[k]?=some s:=⟨l.segs[k],getElem?_eq_getElem (by omega)⟩;have hbs:=hb s (mem_of_getElem? hs);have htr:=wA to hs;have hA':=hA.le hg' (E':=SE G') fun _ _ h=>SE.le hg' h
   have h3':=em hg' h3;have hlen:=tV (l.segs.take k) to;rw[List.length_take]at hlen;intros;refine gN ?_;intros;refine gR 11 13 c189r4.eq_1 ?_;refine hA'.x_ld hs rfl rfl ?_;rintro a1 ha1 cs hse;have hcut:=Dv (Ge s to cs G' hse (by omega) hto);obtain⟨B,d,rfl,hsb,hsi⟩:=hse;unfold gh at hcut ⊢;refine sI ?_;intros;refine gR 14 16 c189r5.eq_1 ?_;refine⟨_,⟨_,rfl,.g h3'⟩,?_⟩;refine sI ?_
   intros;refine gC ?_;refine gbD (fun k1=>?_) (fun k1=>?_)
   ·rw[if_pos k1]at htr;intros;refine gR 17 23 c189r6.eq_1 ?_;refine⟨_,⟨_,rfl,.g h3'⟩,?_⟩;refine sI ?_;refine(hcut _ _).mono ?_;rintro r h' ⟨G2,rfl,hg2,A2,c2,rfl,hs2⟩;refine sI ?_;intro bk hbk;refine xj (L1:=[_]) (L2:=[_]) (E:=SE G2) (x:=BV s to) rfl ⟨A2,c2,rfl,hs2,hsi⟩ rfl (by simp[Value.oneCell']) (fa hzc fun _ _ h=>SE.le hg2 h) (by omega) (by omega) fun A' c' zc' hzc'=>?_
    rw[← htr]at hzc' ⊢;refine sI ?_;intros;refine dU (dX (.cons _ (.cons _ KJ))) ?_;intros;refine gR2 23 24 c189r7.eq_1 @hw ?_;intros;refine dT ?_;refine eF ⟨⟨k+1,G2,_,zc',⟨by omega,hg'.trans hg2,hzc'⟩,eE,eE,eE,eE,eE,eE,rfl⟩,?_⟩;refine sI ?_;omega
   ·rw[if_neg k1,append_nil]at htr;intros;refine gN ?_;refine dU (dX (L':=[.row u 120 2 (sC (l.segs.take k) to).length zc,.reg 2 [.int .i64 0,.int .i64 0,.slice none 0 0]]) (.cons _ KJ)) ?_;intros;refine gR2 23 24 c189r7.eq_1 @hw ?_;intros;refine dT ?_;rw[← htr]at hzc ⊢;refine eF ⟨⟨k+1,G',_,zc,⟨by omega,hg',hzc⟩,eE,eE,eE,eE,eE,eE,rfl⟩,?_⟩;refine sI ?_;omega
  ·have ht:k=l.segs.length:=by have:=KN ht;omega
   subst ht;rw[take_length]at hzc ⊢;refine eg ?_;refine sI ?_;intros;refine gN ?_;exact eF ⟨G',u,zc,⟨hg',hzc⟩,eE,eE,eE,rfl⟩
 rintro e h ⟨G1,u,zc,⟨hg1,hzc⟩,e3,e0,e1,rfl⟩;refine dV [0,1,3] ?_;refine sJ3 @e0 @e1 @e3 ?_;intros;intros;try refine ed ?_
 refine eI (gL (.head _)) ?_;rintro h' ⟨rfl,A2,c2,rfl,-,-⟩
 refine eL (fun e h=>∃ (A2:Ky) (c2:Nat) (zc:Kt) (Lh:Kv),Cells (SE G1) 2 (uV l.segs to) zc∧e 3=.slice A2 (uV l.segs to).length c2∧e 0=.pointer (some ⟨b2,0,none⟩)∧e 1=.pointer (some ⟨b3,0,none⟩)∧h=⟨G1,Lh,[]⟩∧([.row (.slice A2 (uV l.segs to).length c2) 120 2 (uV l.segs to).length zc,.reg 2 [.int .i64 0,.int .i64 0,.slice none 0 0]]:Kv).Sublist Lh) ?_ ?_
 ·intros;refine gR 24 26 c189r8.eq_1 ?_;intros;refine gC ?_;refine gb (fun k1=>?_) (fun k1=>?_)
  ·have k1:sC l.segs to=[]:=List.eq_nil_of_length_eq_zero (by have:=KM k1;omega);have ht:uV l.segs to=[⟨to,[]⟩]:=by rw[uV,if_pos k1]
   rw[ht];intros;refine gR 27 30 c189r9.eq_1 ?_;refine⟨_,⟨_,rfl,.g (em hg1 h3)⟩,?_⟩;refine sI ?_;intro bk hbk;refine sI ?_;intros;refine dT ?_;exact eF ⟨_,_,_,_,Cells.one (E:=SE G1) (x:=⟨to,[]⟩) ⟨none,0,rfl,SB.nil,hto⟩ rfl,eE,eE,eE,rfl,.cons_cons _ (.cons _ KJ)⟩
  ·have k1:¬ sC l.segs to=[]:=fun h=>by rw[h]at k1;simp at k1
   have ht:uV l.segs to=sC l.segs to:=by rw[uV,if_neg k1]
   rw[ht];intros;refine gN ?_;exact eF ⟨_,_,_,_,hzc,eE,eE,eE,rfl,List.Sublist.refl _⟩
 rintro e h ⟨A2,c2,zc,Lh,hzc,e3,e0,e1,rfl,hsub⟩;refine dV [0,1,3] ?_;refine sJ3 @e0 @e1 @e3 ?_;intros;refine dU (dX hsub) ?_;refine eI (eh [] _ (by decide) hzc) ?_;rintro h' ⟨G2,rfl,hg2,hv2⟩;have hg02:=hg1.trans hg2;intros;refine gR 30 33 c189r10.eq_1 ?_;refine⟨_,⟨_,[.int .i64 l.limit,.int .i64 l.start,.slice A l.segs.length c],rfl,rfl,rfl,fun j u hu=>.g (em hg02 (h2 j u hu))⟩,?_⟩;refine sI ?_
 refine fK (mA _ _ _ _ _ _ _ _ _ _ _) ?_;intros;refine rW ?_;exact⟨_,rfl,A2,c2,rfl,hv2.le (.refl _) fun _ _ h=>SE.le hg2 h,hi,hj⟩
theorem sM(l:Lg)(to:Int)(cs:Kt)(G:Ks)(hl:LE G l cs)(hb:smL l.segs)(hm:l.segs.length≤1000)(hto:I64 to):
  FnD Tryz.prog 167 #[.agg cs.toArray,.int .i64 to] G (LgR (sR l to)):=by
 have hl0:=hl;obtain⟨A,c,rfl,hsl,hi,hj⟩:=hl;refine F167.fnD (by simp) (dY ?_);unfold c167;unfold eG at hl0 ⊢;intros;refine gR 0 0 c167r0.eq_1 ?_;intro b2 hb2 b3 hb3;intros;refine dT ?_;refine eI (eP [_] _) ?_;rintro h' ⟨G1,rfl,hg1,f3⟩;refine eI (eP [_] _) ?_;rintro h' ⟨G2,rfl,hg2,f2⟩;have e3:=em hg2 (f3 0 _ rfl);rw[eV]at e3;have hg02:=hg1.trans hg2;intros;refine gR 6 12 c167r1.eq_1 ?_
 refine⟨_,⟨_,[.int .i64 l.limit,.int .i64 l.start,.slice A l.segs.length c],rfl,rfl,rfl,fun j u hu=>.g (f2 j u hu)⟩,?_⟩;refine sI ?_;refine⟨_,⟨_,rfl,.g e3⟩,?_⟩;refine sI ?_;refine(FI l to 189 _ _ _ G2 (LE.le hg02 hl0) hb (by omega) (fun _ _=>qp l to A c b2 b3 G2 (SlSE.le hg02 hsl) hi hj hb hm hto f2 e3) _ _).mono ?_;rintro r h' ⟨G3,rfl,hg3,cs,rfl,hle⟩;have hle0:=hle;obtain⟨A3,c3,rfl,hs3⟩:=hle
 unfold eG;refine sI ?_;intros;refine rW ?_;exact⟨_,rfl,hle0⟩
theorem F89:Fun Tryz.prog 89 94 v89 c89 o89:=Fun.mkA Tryz.func89 Tryz.ntmps89
def mi:Option Sg→List Sg→Bool
 | _,[]=>true
 | p,s :: ss=>jC p s && mi (some s) ss
theorem qV:∀ (l:List Sg) (p:Option Sg) (s:Sg),fP p (l++[s])=fP p l++(if (mi p l && jC (kg p l) s)=true then[(m8 s).1]else[])∧mi p (l++[s])=(mi p l && jC (kg p l) s)
 | [],p,s=>by simp[fP,mi,kg]
 | t :: l,p,s=>by
  obtain⟨h1,h2⟩:=qV l (some t) s;rw[List.cons_append,fP,fP,mi,mi,kg];by_cases hk:jC p t=true
  ·rw[if_pos hk,if_pos hk,h1,h2,hk];simp
  ·rw[if_neg hk,if_neg hk,h2];have:jC p t=false:=by simpa using hk
   simp[this]
theorem rT{l:List Sg}{k:Nat}{s:Sg}(h:l[k]?=some s):fP none (l.take (k+1))=fP none (l.take k)++(if (mi none (l.take k) && jC (kg none (l.take k)) s)=true then[(m8 s).1]else[])∧mi none (l.take (k+1))=(mi none (l.take k) && jC (kg none (l.take k)) s):=by
 rw[eR h];exact qV _ _ _
theorem o5:∀ (l:List Sg) (p:Option Sg),(fP p l).length≤l.length∧(mi p l=true↔(fP p l).length=l.length)
 | [],p=>by simp[fP,mi]
 | s :: l,p=>by
  obtain⟨h1,h2⟩:=o5 l (some s);rw[fP,mi];by_cases hk:jC p s=true
  ·rw[if_pos hk,hk,Bool.true_and];simp only[List.length_cons];exact⟨by omega,h2.trans (by omega)⟩
  ·have:jC p s=false:=by simpa using hk
   rw[if_neg hk,this];simp
theorem rz(l:List Sg)(k:Nat):gi (l.take k)≤gi l:=by
 conv=>rhs;rw[← List.take_append_drop k l,lR]
 omega
theorem p6:∀ (l:List Sg) (p:Option Sg),gi (fP p l)≤gi l
 | [],p=>Nat.le_refl _
 | s :: l,p=>by
  rw[fP];split
  ·have h1:=p6 l (some s);have h2:(m8 s).1.bytes.length≤s.bytes.length:=by
    show(s.bytes.take _).length≤_;rw[List.length_take];omega
   simp only[gi];omega
  ·simp[gi]
theorem wu{l:List Sg}(h:smL l):gi l≤100000 * l.length:=by
 induction l with
 | nil=>simp[gi]
 | cons s l ih =>
  have h1:=ih fun t ht=>h t (.tail _ ht)
  have h2:=h s (.head _);simp only[gi,List.length_cons];omega
set_option maxHeartbeats 1000000 in
theorem oL(l:Lg)(cs:Kt)(G:Ks)(hl:LE G l cs)(hb:smL l.segs)(hm:l.segs.length≤1000):
  FnD Tryz.prog 89 #[.agg cs.toArray] G (LgR (iQ l)):=by
 obtain⟨A,c,rfl,hsl,hi,hj⟩:=hl;have hsl0:=hsl;obtain⟨A0,c0,he,hc,hmx,hA⟩:=hsl;cases he;refine F89.fnD (by simp) (dY ?_);unfold c89 eG;intros;refine gR 0 0 c89r0.eq_1 ?_;intros;intros;try refine ed ?_
 refine eL (fun e h=>(lz l.limit l.start=true∧lH l=true)∧e 3=.int .i64 0∧h=⟨G,[.reg 2 [.int .i64 0,.int .i64 0,.slice none 0 0],.reg 1 [.int .i64 l.limit,.int .i64 l.start,.slice A l.segs.length c]],[]⟩) ?_ ?_
 ·intros;refine gR 9 28 c89r1.eq_1 ?_;refine fK (x9 _ _ _ _ _) ?_;refine gd (fun k1=>?_) (fun k1=>?_)
  ·have k1:lz l.limit l.start=false:=by simpa using k1
   refine sI ?_;intros;refine gC ?_;intros;refine gR 29 30 c89r2.eq_1 ?_;intros;refine rW ?_;rw[iQ,if_neg (by rw[k1];simp)];exact gV
  have k1:lz l.limit l.start=true:=by simpa using k1
  refine sI ?_;refine gd (fun k2=>?_) (fun k2=>?_)
  ·have k2:l.segs=[]:=List.eq_nil_of_length_eq_zero (by have:=KM k2;omega);have hh:lH l=false:=by unfold lH;rw[k2]
   refine sI ?_;intros;refine gC ?_;intros;refine gR 29 30 c89r2.eq_1 ?_;intros;refine rW ?_;rw[iQ,if_neg (by rw[hh];simp)];exact gV
  have k2:¬ l.segs=[]:=fun h=>by rw[h]at k2;simp at k2
  obtain⟨s0,ss,hss⟩:=List.exists_cons_of_ne_nil k2;have hs0:l.segs[0]?=some s0:=by rw[hss];rfl
  have hh:lH l=inO s0.base:=by unfold lH;rw[hss]
  refine sI ?_;refine hA.x_lf (k:=0) (u:=.int .i64 s0.base) hs0 rfl rfl (fun cs h=>by obtain⟨_,_,rfl,-⟩:=h;rfl) fun a ha=>?_
  refine sI ?_;refine fK (od _ _ _ _) ?_;intros;refine gC ?_;refine gb (fun k3=>?_) (fun k3=>?_)
  ·have k3:inO s0.base=false:=by simpa using k3
   intros;refine gR 29 30 c89r2.eq_1 ?_;intros;refine rW ?_;rw[iQ,if_neg (by rw[hh,k3];simp)];exact gV
  ·have k3:inO s0.base=true:=by simpa using k3
   intros;refine gN ?_;exact eF ⟨⟨k1,by rw[hh,k3]⟩,eE,rfl⟩
 rintro e h ⟨⟨k1,k2⟩,e3,rfl⟩;refine dV [3] ?_;refine sJ @e3 ?_;have hrec:iQ l=(⟨l.limit,l.start,fP none l.segs⟩,(gi l.segs:Int) - (gi (fP none l.segs):Int)):=by rw[iQ,if_pos ⟨k1,k2⟩]
 rw[hrec];have hsm:=wu hb;intros;intros;refine gR 30 32 c89r3.eq_1 ?_;refine fK (mA _ _ _ _ _ _ _ _ _ _ _) ?_;intros;refine gR 0 0 c89r4.eq_1 ?_;intros;intros;try refine ed ?_
 refine dU (eA none 120 2) ?_
 refine eL (fun e h=>∃ (G':Ks) (A2:Ky) (c2:Nat) (zc:Kt),(Gle G G'∧Cells (SE G') 2 (fP none l.segs) zc)∧e 3=.int .i64 ((gi l.segs:Int) - (gi (fP none l.segs):Int))∧h=⟨G',[.row (.slice A2 (fP none l.segs).length c2) 120 2 (fP none l.segs).length zc,.reg 2 [.int .i64 l.limit,.int .i64 l.start,.slice A2 (fP none l.segs).length c2],.reg 1 [.int .i64 l.limit,.int .i64 l.start,.slice A l.segs.length c]],[]⟩) ?_ ?_
 ·intros;refine dT ?_
  refine ej (fun e h=>∃ (k:Nat) (G':Ks) (A2:Ky) (c2:Nat) (zc:Kt),(k≤l.segs.length∧Gle G G'∧Cells (SE G') 2 (fP none (l.segs.take k)) zc)∧e 35=.int .i64 k∧e 34=.int .i64 l.segs.length∧e 33=.slice A l.segs.length c∧e 3=.int .i64 ((gi (l.segs.take k):Int) - (gi (fP none (l.segs.take k)):Int))∧h=⟨G',[.row (.slice A2 (fP none (l.segs.take k)).length c2) 120 2 (fP none (l.segs.take k)).length zc,.reg 2 [.int .i64 l.limit,.int .i64 l.start,.slice A2 (fP none (l.segs.take k)).length c2],.reg 1 [.int .i64 l.limit,.int .i64 l.start,.slice A l.segs.length c]],[]⟩) (fun e h=>l.segs.length - iv (e 35)) ?_ ?_
  ·exact⟨0,G,none,0,[],⟨Nat.zero_le _,.refl _,.nil⟩,eE,eE,eE,by refine sI ?_;rfl,rfl⟩
  rintro e h ⟨k,G',A2,c2,zc,⟨hk,hg',hzc⟩,e35,e34,e33,e3,rfl⟩;refine dV [3,33,34,35] ?_;refine sJ4 @e3 @e33 @e34 @e35 ?_;intros;refine gR 0 0 c89r5.eq_1 ?_;intros;refine gC ?_;refine gb (fun ht=>?_) (fun ht=>?_)
  ·have ht:k < l.segs.length:=by have:=KM ht;omega
   have hw:=eW k c (by omega) hmx;obtain⟨s,hs⟩:∃ s,l.segs[k]?=some s:=⟨l.segs[k],getElem?_eq_getElem (by omega)⟩;have hbs:=hb s (mem_of_getElem? hs);obtain⟨hr1,hr2⟩:=rT hs;obtain⟨hle,hiff⟩:=o5 (l.segs.take k) none;have hlk:(l.segs.take k).length=k:=by rw[List.length_take];omega
   rw[hlk]at hle hiff;have hz1:gi (l.segs.take (k+1))=gi (l.segs.take k)+s.bytes.length:=by rw[eR hs,lR];simp[gi]
   have hz2:=rz l.segs (k+1);have hz3:=p6 (l.segs.take k) none;have hA':=hA.le hg' (E':=SE G') fun _ _ h=>SE.le hg' h
   have hw2:IntKind.i64.wrap ((gi (l.segs.take k):Int) - (gi (fP none (l.segs.take k)):Int)+(s.bytes.length:Int))=(gi (l.segs.take k):Int) - (gi (fP none (l.segs.take k)):Int)+(s.bytes.length:Int):=by rw[ei] <;> omega
   intros;refine gN ?_;intros;refine gR 37 40 c89r6.eq_1 ?_;refine hA'.x_ld hs rfl rfl ?_;rintro a1 ha1 cs hse;have hse0:=hse;have hfix:=mo (Gd s cs G' hse (by omega));obtain⟨B,d,rfl,hsb,hsi⟩:=hse;unfold gh at hfix hse0 ⊢;refine sI ?_;intros;refine gR2 40 45 c89r7.eq_1 @hw2 ?_;intros;intros;try refine ed ?_
   refine eL (fun e h=>(mi none (l.segs.take k) && jC (kg none (l.segs.take k)) s)=true∧e 35=.int .i64 k∧e 34=.int .i64 l.segs.length∧e 33=.slice A l.segs.length c∧e 3=.int .i64 ((gi (l.segs.take k):Int) - (gi (fP none (l.segs.take k)):Int)+(s.bytes.length:Int))∧h=⟨G',[.reg 5 [.int .i64 s.base,.slice B s.bytes.length d],.row (.slice A2 (fP none (l.segs.take k)).length c2) 120 2 (fP none (l.segs.take k)).length zc,.reg 2 [.int .i64 l.limit,.int .i64 l.start,.slice A2 (fP none (l.segs.take k)).length c2],.reg 1 [.int .i64 l.limit,.int .i64 l.start,.slice A l.segs.length c]],[]⟩) ?_ ?_
   ·have hd50:decide (((fP none (l.segs.take k)).length:Int) < (k:Int))=!mi none (l.segs.take k):=by
     by_cases h:mi none (l.segs.take k)=true
     ·rw[h];exact decide_eq_false (by have:=hiff.1 h;omega)
     ·have h2:mi none (l.segs.take k)=false:=by simpa using h
      rw[h2];exact decide_eq_true (by have:¬ (fP none (l.segs.take k)).length=k:=fun hh=>h (hiff.2 hh);omega)
    intros;refine dT ?_;refine lk _ KJ (by decide) ?_;refine sJ2 c89r8.eq_1 @hd50 ?_;refine gx (fun k3=>?_) (fun k3=>?_)
    ·have k3:mi none (l.segs.take k)=false:=by simpa using k3
     have hr1':fP none (l.segs.take (k+1))=fP none (l.segs.take k):=by rw[hr1,k3];simp
     have hq:(gi (l.segs.take k):Int) - (gi (fP none (l.segs.take k)):Int)+(s.bytes.length:Int)=(gi (l.segs.take (k+1)):Int) - (gi (fP none (l.segs.take (k+1))):Int):=by rw[hr1',hz1];push_cast;omega
     refine sI ?_;intros;refine gC ?_;rw[← hr1']at hzc hq ⊢;refine eg ?_;refine sI ?_;refine dU (dX (.cons _ KJ)) ?_;intros;refine gR2 91 92 c89r12.eq_1 @hw ?_;intros;refine dT ?_;refine eF ⟨⟨k+1,G',A2,c2,zc,⟨by omega,hg',hzc⟩,eE,eE,eE,(eJ @hq),rfl⟩,?_⟩;refine sI ?_;omega
    have k3:mi none (l.segs.take k)=true:=by simpa using k3
    rw[k3,Bool.true_and]at hr1 ⊢;refine sI ?_;refine gx (fun k4=>?_) (fun k4=>?_)
    ·have k4:0 < k:=by have:=KM k4;omega
     have hw1:IntKind.i64.wrap ((k:Int) - 1)=(k:Int) - 1:=by unfold maxLen at hmx;rw[ei] <;> omega
     obtain⟨p,hp⟩:∃ p,l.segs[k - 1]?=some p:=⟨l.segs[k - 1],getElem?_eq_getElem (by omega)⟩;have hbp:=hb p (mem_of_getElem? hp);rw[lT k4 hp]at hr1 ⊢;refine sJ @hw1 ?_;refine hA'.y_ld hp (by omega) rfl ?_;rintro a2 ha2 cs2 hpe;have hwh:=tN p cs2 G' hpe (by omega);obtain⟨B2,d2,rfl,-⟩:=hpe;unfold gh at hwh ⊢;refine sI ?_;refine fK (hwh _ _) ?_;refine gx (fun k5=>?_) (fun k5=>?_)
     ·have k5:fL p=false:=by simpa using k5
      have hkp:jC (some p) s=false:=by simp[jC,k5]
      have hr1':fP none (l.segs.take (k+1))=fP none (l.segs.take k):=by rw[hr1,hkp];simp
      have hq:(gi (l.segs.take k):Int) - (gi (fP none (l.segs.take k)):Int)+(s.bytes.length:Int)=(gi (l.segs.take (k+1)):Int) - (gi (fP none (l.segs.take (k+1))):Int):=by rw[hr1',hz1];push_cast;omega
      refine sI ?_;intros;refine gC ?_;rw[← hr1']at hzc hq ⊢;refine eg ?_;refine sI ?_;refine dU (dX (.cons _ KJ)) ?_;intros;refine gR2 91 92 c89r12.eq_1 @hw ?_;intros;refine dT ?_;refine eF ⟨⟨k+1,G',A2,c2,zc,⟨by omega,hg',hzc⟩,eE,eE,eE,(eJ @hq),rfl⟩,?_⟩;refine sI ?_;omega
     have k5:fL p=true:=by simpa using k5
     have hkp:jC (some p) s=oB p s:=by simp[jC,k5]
     refine sJ @hw1 ?_;refine hA'.y_ld hp (by omega) rfl ?_;rintro a3 ha3 cs3 hpe3;have hfo:=oJ p s cs3 _ G' hpe3 hse0 (by omega);obtain⟨B3,d3,rfl,-⟩:=hpe3;unfold gh at hfo ⊢;refine sI ?_;refine fK (hfo _ _) ?_;intros;refine gC ?_;refine gb (fun k6=>?_) (fun k6=>?_)
     ·have k6:oB p s=false:=by simpa using k6
      rw[k6]at hkp;have hr1':fP none (l.segs.take (k+1))=fP none (l.segs.take k):=by rw[hr1,hkp];simp
      have hq:(gi (l.segs.take k):Int) - (gi (fP none (l.segs.take k)):Int)+(s.bytes.length:Int)=(gi (l.segs.take (k+1)):Int) - (gi (fP none (l.segs.take (k+1))):Int):=by rw[hr1',hz1];push_cast;omega
      rw[← hr1']at hzc hq ⊢;refine eg ?_;refine sI ?_;refine dU (dX (.cons _ KJ)) ?_;intros;refine gR2 91 92 c89r12.eq_1 @hw ?_;intros;refine dT ?_;refine eF ⟨⟨k+1,G',A2,c2,zc,⟨by omega,hg',hzc⟩,eE,eE,eE,(eJ @hq),rfl⟩,?_⟩;refine sI ?_;omega
     ·have k6:oB p s=true:=by simpa using k6
      rw[k6]at hkp;intros;refine gN ?_;exact eF ⟨hkp,eE,eE,eE,eE,rfl⟩
    ·have k4:k=0:=by have:=KN k4;omega
     have hkp:jC (kg none (l.segs.take k)) s=true:=by rw[k4];rfl
     refine sI ?_;intros;refine gC ?_;intros;refine gN ?_;exact eF ⟨hkp,eE,eE,eE,eE,rfl⟩
   rintro e h ⟨hkeep,e35,e34,e33,e3,rfl⟩;refine dV [3,33,34,35] ?_;refine sJ4 @e3 @e33 @e34 @e35 ?_;rw[hkeep,if_pos rfl]at hr1;have hgl:(m8 s).1.bytes.length≤s.bytes.length:=by
    show(s.bytes.take _).length≤_;rw[List.length_take];omega
   have hw3:IntKind.i64.wrap ((gi (l.segs.take k):Int) - (gi (fP none (l.segs.take k)):Int)+(s.bytes.length:Int) - ((m8 s).1.bytes.length:Int))=(gi (l.segs.take (k+1)):Int) - (gi (fP none (l.segs.take (k+1))):Int):=by
    rw[hr1,lR,hz1];simp only[gi];rw[ei] <;> omega
   generalize (gi (l.segs.take k):Int) - (gi (fP none (l.segs.take k)):Int)+(s.bytes.length:Int)=D0 at *;have hfb:(m8 s).1.base=s.base:=rfl;generalize m8 s=q at *;obtain⟨s',er⟩:=q;dsimp only at hr1 hgl hw3 hfb;intros;refine gR 75 80 c89r9.eq_1 ?_;refine(hfix _ _).mono ?_;rintro r h' ⟨G2,rfl,hg2,A3,c3,rfl,hs3⟩;refine sI ?_;intros;refine gR2 80 85 c89r10.eq_1 @hw3 ?_
   have hzc2:Cells (SE G2) 2 (fP none (l.segs.take k)) zc:=fa hzc fun _ _ h=>SE.le hg2 h
   have hse3:SE G2 s' [.int .i64 s'.base,.slice A3 s'.bytes.length c3]:=⟨A3,c3,rfl,hs3,by rw[hfb];exact hsi⟩;intros;refine gR 86 90 c89r11.eq_1 ?_;intro bk hbk;refine xj (L1:=[_,_]) (L2:=[_,_]) (E:=SE G2) (x:=s') rfl hse3 rfl (by simp[Value.oneCell']) hzc2 (by omega) (by omega) fun A' c' zc' hzc'=>?_
   rw[← hr1]at hzc' ⊢;refine sI ?_;intros;refine dU (dX (.cons _ (.cons _ (.cons _ KJ)))) ?_;intros;refine gR2 91 92 c89r12.eq_1 @hw ?_;intros;refine dT ?_;refine eF ⟨⟨k+1,G2,A',c',zc',⟨by omega,hg'.trans hg2,hzc'⟩,eE,eE,eE,eE,rfl⟩,?_⟩;refine sI ?_;omega
  ·have ht:k=l.segs.length:=by have:=KN ht;omega
   subst ht;rw[take_length]at hzc e3 ⊢;refine eg ?_;refine sI ?_;intros;refine gN ?_;exact eF ⟨G',A2,c2,zc,⟨hg',hzc⟩,eE,rfl⟩
 rintro e h ⟨G1,A2,c2,zc,⟨hg1,hzc⟩,e3,rfl⟩;refine dV [3] ?_;refine sJ @e3 ?_;intros;refine eI (eh [] _ (by decide) hzc) ?_;rintro h' ⟨G2,rfl,hg2,hv2⟩;intros;refine gR 92 94 c89r13.eq_1 ?_;intros;refine rW ?_;exact⟨_,rfl,A2,c2,rfl,hv2.le (.refl _) fun _ _ h=>SE.le hg2 h,hi,hj⟩
theorem F45:Fun Tryz.prog 45 27 v45 c45 o45:=Fun.mkA Tryz.func45 Tryz.ntmps45
theorem F77:Fun Tryz.prog 77 46 v77 c77 o77:=Fun.mkA Tryz.func77 Tryz.ntmps77
theorem GY{α:Type}{P:Program}{h:H}{d sz:Nat}{l:Ku}{G:Ks}{E:α→Kt→Prop}{A:Ky}{xs:List α}{K:KH}{e:Addr→Env}{j:Int}{k o:Nat}{x:α}{Pu:Value→Prop}(hA:SlA G E sz A xs)(hx:xs[k]?=some x)(hj:j=k)(hG:h.G=G)(hu:∀ cs,E x cs→∃ u,cs[o]?=some u∧Pu u)
  (hk:∀ a,A=some a→∀ u,Pu u→kR P l d (e a) K u h):(0≤j∧j < xs.length)∧∃ a,A=some a∧ldX P (.pointer (some ((a.add (j.toNat * sz)).add o))) none d l (e a) h K:=by
 obtain⟨G',L,D⟩:=h;dsimp only at hG;subst hG;obtain⟨a,cs,ha,hE,_,_,hld⟩:=hA.at_ hx L D;obtain⟨u,hu,hp⟩:=hu cs hE;have:=SlA.lt hx;subst hj;exact⟨by omega,a,ha,_,by simpa using hld o u hu,hk a ha u hp⟩
theorem C9(l:Lg)(cs:Kt)(G:Ks)(hl:LE G l cs):FnE Tryz.prog 45 #[.agg cs.toArray] G (fun r=>∃ b,r=.bool b∧(b=true→l.segs.length≤12∧∀ s∈l.segs,s.bytes.length≤5000)):=by
 obtain⟨A,c,rfl,⟨A0,c0,he,hc,hm,hA⟩,hi,hj⟩:=hl;cases he;refine F45.fnE (by simp) (dY ?_);unfold c45 eG;have hd:decide ((l.segs.length:Int)≤12)=decide (l.segs.length≤12):=decide_eq_decide.2 (by omega)
 have hrest:∀ (fr:KA) (e:Env),(l.segs.length≤300→∀ s∈l.segs,s.bytes.length≤5000)→go none Tryz.prog 27 v45.1 v45.2 (fI o45 fun r _=>∃ b,r=.bool b∧(b=true→l.segs.length≤12∧∀ s∈l.segs,s.bytes.length≤5000)) (Td.s ((SC.reg false c45r6).seq .ret) :: fr) e ⟨G,[.reg 1 [.int .i64 l.limit,.int .i64 l.start,.slice A l.segs.length c]],[]⟩:=fun fr e hall=>by
  intros;refine gR2 24 27 c45r6.eq_1 @hd ?_;intros;refine rW ?_;exact⟨_,rfl,fun h=>by have h:=KM h;exact⟨h,hall (by omega)⟩⟩
 intros;refine gR 0 0 c45r0.eq_1 ?_;intros;refine gR 0 0 c45r1.eq_1 ?_;intros;refine dT ?_;refine ej (fun e h=>∃ k:Nat,(k≤l.segs.length∧∀ s∈l.segs.take k,s.bytes.length≤5000)∧e 3=.int .i64 k∧h=⟨G,[.reg 1 [.int .i64 l.limit,.int .i64 l.start,.slice A l.segs.length c]],[]⟩) (fun e h=>l.segs.length - iv (e 3)) ?_ ?_
 ·exact⟨0,⟨Nat.zero_le _,by simp⟩,eE,rfl⟩
 rintro e h ⟨k,⟨hk,hall⟩,e3,rfl⟩;refine dV [3] ?_;refine sJ @e3 ?_;intros;refine gR 4 12 c45r2.eq_1 ?_;refine gd (fun k1=>?_) (fun k1=>?_)
 ·have k1:k < l.segs.length:=by have:=KM k1;omega
  refine sI ?_;intros;refine gC ?_;refine gb (fun k2=>?_) (fun k2=>?_)
  ·have hw:=eW k c (by omega) hm;obtain⟨s,hs⟩:∃ s,l.segs[k]?=some s:=⟨l.segs[k],getElem?_eq_getElem (by omega)⟩;intros;refine gN ?_;intros;refine gR 16 22 c45r3.eq_1 ?_;refine GY (k:=k) (Pu:=fun u=>∃ B d,u=.slice B s.bytes.length d) hA hs rfl rfl (fun cs h=>by obtain⟨B,d,rfl,-⟩:=h;exact⟨_,rfl,B,d,rfl⟩) ?_;rintro a ha u ⟨B,d,rfl⟩;refine sI ?_;intros;refine gC ?_
   refine gb (fun k3=>?_) (fun k3=>?_)
   ·intros;refine gR 0 0 c45r4.eq_1 ?_;intros;refine rW ?_;exact⟨false,rfl,fun h=>by cases h⟩
   ·have k3:=KN k3;intros;refine gN ?_;intros;refine gR2 13 15 c45r5.eq_1 @hw ?_;intros;refine dT ?_;refine eF ⟨⟨k+1,⟨by omega,fun z hz=>?_⟩,eE,rfl⟩,?_⟩
    ·rw[eR hs]at hz;rcases List.mem_append.1 hz with h | h
     ·exact hall z h
     ·simp at h;subst h;omega
    ·refine sI ?_;omega
  ·have k2:=KN k2;refine eg ?_;refine sI ?_;intros;refine gN ?_;exact hrest _ _ fun h=>by omega
 ·have k1:k=l.segs.length:=by have:=KN k1;omega
  subst k1;rw[take_length]at hall;refine sI ?_;intros;refine gC ?_;refine eg ?_;refine sI ?_;intros;refine gN ?_;exact hrest _ _ fun _=>hall
theorem Ah(a b:Lg)(cs ds:Kt)(G:Ks)(ha:LE G a cs)(hb:LE G b ds):FnS Tryz.prog 77 #[.agg cs.toArray,.agg ds.toArray] G (.bool (decide (a=b))):=by
 obtain⟨A,c,rfl,⟨A0,c0,he,hc,hm,hA⟩,hi,hj⟩:=ha;cases he;obtain⟨B,d,rfl,⟨B0,d0,he,hd,hn,hB⟩,hi2,hj2⟩:=hb;cases he;have hde:a=b↔a.limit=b.limit∧a.start=b.start∧a.segs=b.segs:=by
  constructor
  ·rintro rfl;exact⟨rfl,rfl,rfl⟩
  ·rintro⟨h1,h2,h3⟩;cases a;cases b;simp_all
 refine F77.fnS (by simp) (dY ?_);unfold c77 eG;intros;refine gR 0 0 c77r0.eq_1 ?_;intros;refine gR 7 26 c77r1.eq_1 ?_;refine gd (fun k1=>?_) (fun k1=>?_)
 ·have k1:=KM k1;refine sI ?_;intros;refine gC ?_;intros;refine gR 0 0 c77r2.eq_1 ?_;intros;refine rW ?_;rw[decide_eq_false fun h=>k1 (hde.1 h).1]
 have k1:a.limit=b.limit:=by simpa using k1
 refine sI ?_;refine gd (fun k2=>?_) (fun k2=>?_)
 ·have k2:=KM k2;refine sI ?_;intros;refine gC ?_;intros;refine gR 0 0 c77r2.eq_1 ?_;intros;refine rW ?_;rw[decide_eq_false fun h=>k2 (hde.1 h).2.1]
 have k2:a.start=b.start:=by simpa using k2
 refine sI ?_;intros;refine gC ?_;refine gb (fun k3=>?_) (fun k3=>?_)
 ·have k3:=KM k3;intros;refine gR 0 0 c77r2.eq_1 ?_;intros;refine rW ?_;rw[decide_eq_false fun h=>k3 (by rw[(hde.1 h).2.2])]
 have k3:a.segs.length=b.segs.length:=by have:=KN k3;omega
 intros;refine gN ?_;intros;refine gR 0 0 c77r3.eq_1 ?_;intros;refine dT ?_;refine ej (fun e h=>∃ k:Nat,(k≤a.segs.length∧a.segs.take k=b.segs.take k)∧e 5=.int .i64 k∧h=⟨G,[.reg 3 [.int .i64 b.limit,.int .i64 b.start,.slice B b.segs.length d],.reg 2 [.int .i64 a.limit,.int .i64 a.start,.slice A a.segs.length c]],[]⟩) (fun e h=>a.segs.length - iv (e 5)) ?_ ?_
 ·exact⟨0,⟨Nat.zero_le _,rfl⟩,eE,rfl⟩
 rintro e h ⟨k,⟨hk,htk⟩,e5,rfl⟩;refine dV [5] ?_;refine sJ @e5 ?_;intros;refine gR 27 31 c77r4.eq_1 ?_;intros;refine gC ?_;refine gb (fun ht=>?_) (fun ht=>?_)
 ·have ht:k < a.segs.length:=by have:=KM ht;omega
  have hw:=eW k c (by omega) hm;obtain⟨x,hx⟩:∃ x,a.segs[k]?=some x:=⟨a.segs[k],getElem?_eq_getElem (by omega)⟩;obtain⟨y,hy⟩:∃ y,b.segs[k]?=some y:=⟨b.segs[k],getElem?_eq_getElem (by omega)⟩;intros;refine gN ?_;intros;refine dT ?_;refine lk _ KJ (by decide) ?_;refine sJ c77r5.eq_1 ?_;refine hA.y_ld hx rfl rfl ?_;rintro a1 ha1 cs hbx;refine sI ?_;refine hB.y_ld hy rfl rfl ?_
  rintro a2 ha2 ds hby;have hsm:=zq x y cs ds G hbx hby;obtain⟨B1,d1,rfl,-⟩:=hbx;obtain⟨B2,d2,rfl,-⟩:=hby;unfold gh at hsm ⊢;refine sI ?_;refine fK (hsm _ _) ?_;intros;refine gC ?_;refine gb (fun h3=>?_) (fun h3=>?_)
  ·have h3:¬ x=y:=by simpa using h3
   intros;refine gR 0 0 c77r6.eq_1 ?_;intros;refine rW ?_;rw[decide_eq_false fun h=>h3 (by have:=(hde.1 h).2.2;rw[this,hy]at hx;cases hx;rfl)]
  ·have h3:x=y:=by simpa using h3
   intros;refine gN ?_;intros;refine gR2 32 34 c77r7.eq_1 @hw ?_;intros;refine dT ?_;refine eF ⟨⟨k+1,⟨by omega,kB htk hx hy h3⟩,eE,rfl⟩,?_⟩;refine sI ?_;omega
 ·have ht:k=a.segs.length:=by have:=KN ht;omega
  refine eg ?_;refine sI ?_;intros;refine gR 0 0 c77r8.eq_1 ?_;intros;refine rW ?_;rw[decide_eq_true (hde.2 ⟨k1,k2,rA ht k3 htk⟩)]
theorem na{l:Lg}(h:fS l=0):smL l.segs:=fun s hs=>by
 obtain⟨h1,h2,h3,h4⟩:=ib h;have:=(sG h3 s hs).2;have:=(gM.1 h1).1.2;omega
theorem Jz{α:Type}{P:Program}{h:H}{d sz:Nat}{l:Ku}{G:Ks}{E:α→Kt→Prop}{A:Ky}{xs:List α}{K:Env→Prop}{e:Addr→Env}{j:Int}{k o:Nat}{x:α}{Pu:Value→Prop}(hA:SlA G E sz A xs)(hx:xs[k]?=some x)(hj:j=k)(hG:h.G=G)(hu:∀ cs,E x cs→∃ u,cs[o]?=some u∧Pu u)
  (hk:∀ a,A=some a→∀ u,Pu u→kQ P l d (e a) h K u):(0≤j∧j < xs.length)∧∃ a,A=some a∧lqX P (.pointer (some ((a.add (j.toNat * sz)).add o))) none d l (e a) h K:=by
 obtain⟨G',L,D⟩:=h;dsimp only at hG;subst hG;obtain⟨a,cs,ha,hE,_,_,hld⟩:=hA.at_ hx L D;obtain⟨u,hu,hp⟩:=hu cs hE;have:=SlA.lt hx;subst hj;exact⟨by omega,a,ha,_,by simpa using hld o u hu,hk a ha u hp⟩
end Go.Proofs.YtpmofpekcbghnaaGreat
namespace Go.Proofs.YtpmofpekcbghnaaGreat
open Go Go.Kx
open List (getElem?_eq_getElem mem_of_getElem? length_append append_nil take_length)
theorem F124:Fun Tryz.prog 124 12 v124 c124 o124:=Fun.mkA Tryz.func124 Tryz.ntmps124
theorem F108:Fun Tryz.prog 108 47 v108 c108 o108:=Fun.mkA Tryz.func108 Tryz.ntmps108
theorem F125:Fun Tryz.prog 125 8 v125 c125 o125:=Fun.mkA Tryz.func125 Tryz.ntmps125
theorem F70:Fun Tryz.prog 70 77 v70 c70 o70:=Fun.mkA Tryz.func70 Tryz.ntmps70
theorem kT(a b:Int)(G:Ks):FnS Tryz.prog 124 #[.int .i64 a,.int .i64 b] G (.bool (decide (0≤a) && decide (a≤b))):=by
 refine F124.fnS (by simp) (dY ?_);unfold c124;intros;refine gR 0 0 c124r0.eq_1 ?_;intros;refine gR 5 12 c124r1.eq_1 ?_;refine gd (fun hp=>?_) (fun hp=>?_) <;> (refine sI ?_) <;> (intros;refine dT ?_) <;> (intros;refine rV ?_;simp only[push_cast,Nat.reduceBEq]) <;> simp[hp]
abbrev Ep:=Int × Int
def EpE(x:Ep)(cs:Kt):Prop:=cs=[.int .i64 x.1,.int .i64 x.2]∧I64 x.1∧I64 x.2
abbrev SEp(G:Ks)(v:Value)(xs:List Ep):Prop:=SlV G EpE 2 v xs
def okE(x:Ep):Bool:=(decide (0≤x.1) && decide (x.1≤1048576)) && (decide (0≤x.2) && decide (x.2≤1099511627776))
def Chk(l:List Ep)(k:Nat):Prop:=∀ i x,i < k→l[i]?=some x→okE x=true∧∀ p,0 < i→l[i - 1]?=some p→p.1 < x.1∧p.2 < x.2
open Classical in
noncomputable def gP(l:List Ep):Int:=if Chk l l.length then 0 else 1
theorem ni{l:List Ep}{k:Nat}{x:Ep}(h:Chk l k)(hx:l[k]?=some x)(h1:okE x=true)(h2:∀ p,0 < k→l[k - 1]?=some p→p.1 < x.1∧p.2 < x.2):Chk l (k+1):=fun i y hi hy=>by
 by_cases hik:i=k
 ·subst hik;rw[hx]at hy;cases hy;exact⟨h1,h2⟩
 ·exact h i y (by omega) hy
theorem jH(l:List Ep)(v:Value)(G:Ks)(hl:SEp G v l):FnS Tryz.prog 108 #[v] G (.int .i64 (gP l)):=by
 obtain⟨A,c,rfl,hc,hm,hA⟩:=hl;refine F108.fnS (by simp) (dY ?_);unfold c108;intros;refine gR 0 0 c108r0.eq_1 ?_;intros;refine gR 0 0 c108r1.eq_1 ?_;intros;refine dT ?_;refine ej (fun e h=>∃ k:Nat,(k≤l.length∧Chk l k)∧e 7=.int .i64 k∧e 6=.int .i64 l.length∧e 5=.slice A l.length c∧e 0=.slice A l.length c∧e 2=.int .i64 0∧h.G=G∧h.D=[]) (fun e h=>l.length - iv (e 7)) ?_ ?_
 ·exact⟨0,⟨Nat.zero_le _,fun i x hi=>absurd hi (by omega)⟩,eE,eE,eE,eE,eE,rfl,rfl⟩
 ·rintro e ⟨G',L,D⟩ ⟨k,⟨hk,hch⟩,e7,e6,e5,e0,e2,hG,hD⟩;dsimp only at hG hD;subst hG hD;refine dU (h':=⟨G',[],[]⟩) (dX KL) ?_;refine dV [0,2,5,6,7] ?_;refine sJ5 @e0 @e2 @e5 @e6 @e7 ?_;intros;refine gR 0 0 c108r2.eq_1 ?_;intros;refine gC ?_;refine gb (fun ht=>?_) (fun ht=>?_)
  ·have hkl:k < l.length:=by simpa using ht
   obtain⟨a,cs,rfl,⟨rfl,i1,i2⟩,_,hld,hfl⟩:=hA.at_ (getElem?_eq_getElem hkl) [] [];generalize hx:l[k]=x at *;have hx':l[k]?=some x:=by rw[getElem?_eq_getElem hkl,hx]
   intros;refine gR 9 12 c108r3.eq_1 ?_;refine⟨by omega,a,rfl,_,hld,?_⟩;refine sI ?_;intros;refine gR 13 21 c108r4.eq_1 ?_;refine(kT .. |>.mono ?_)
   rintro v h' ⟨rfl,rfl⟩;refine sI ?_;refine gd (fun h1=>?_) (fun h1=>?_)
   ·refine sI ?_;intros;refine gC ?_;intros;refine gR 0 0 c108r5.eq_1 ?_;intros;refine rW ?_;rw[gP,if_neg];intro hc2;have:=(hc2 k x hkl hx').1;simp[okE]at this h1;omega
   ·refine sI ?_;refine(kT .. |>.mono ?_)
    rintro v h' ⟨rfl,rfl⟩;refine sI ?_;intros;refine gC ?_;simp at h1;refine gb (fun h2=>?_) (fun h2=>?_)
    ·intros;refine gR 0 0 c108r5.eq_1 ?_;intros;refine rW ?_;rw[gP,if_neg];intro hc2;have:=(hc2 k x hkl hx').1;simp[okE]at this h2;omega
    ·have hok:okE x=true:=by simp at h2;simp[okE];omega
     intros;refine dT ?_;refine qB 22 45 (by decide) ?_;refine sJ c108r6.eq_1 ?_;refine gq (fun h3=>?_) (fun h3=>?_)
     ·refine sI ?_;obtain⟨j,rfl⟩:∃ j,k=j+1:=⟨k - 1,by simp at h3;omega⟩;have hw:IntKind.i64.wrap ((j:Int)+1 - 1)=j:=by have:=hm;unfold maxLen at this;rw[ei] <;> omega
      obtain⟨p,hp⟩:∃ p,l[j]?=some p:=⟨l[j],getElem?_eq_getElem (by omega)⟩;obtain⟨a',cs,ha',⟨rfl,j1,j2⟩,_,_,hfl'⟩:=hA.at_ hp [Item.reg 4 [Value.int IntKind.i64 x.fst,Value.int IntKind.i64 x.snd]] [];cases ha';have hpk:=(hch j p (by omega) hp).1;have hw1:IntKind.i64.wrap (x.1 - p.1)=x.1 - p.1:=by simp[okE]at hok hpk;rw[ei] <;> omega
      have hw2:IntKind.i64.wrap (x.2 - p.2)=x.2 - p.2:=by simp[okE]at hok hpk;rw[ei] <;> omega
      refine sJ @hw ?_;refine⟨by omega,a,rfl,_,hfl' 0 _ rfl,?_⟩;refine sJ2 @hw @hw1 ?_;refine⟨by omega,a,rfl,_,hfl' 1 _ rfl,?_⟩;refine sJ2 @hw @hw2 ?_;intros;refine gC ?_;refine gb (fun h4=>?_) (fun h4=>?_)
      ·intros;refine gR 0 0 c108r7.eq_1 ?_;intros;refine rW ?_;rw[gP,if_neg];intro hc2;have:=(hc2 (j+1) x hkl hx').2 p (by omega) hp;simp at h4;omega
      ·intros;refine gR 46 47 c108r8.eq_1 ?_;intros;refine dT ?_;have hw3:IntKind.i64.wrap ((j:Int)+1+1)=((j+1+1:Nat):Int):=by have:=hm;unfold maxLen at this;rw[ei] <;> omega
       refine eF ⟨⟨j+1+1,⟨by omega,ni hch hx' hok ?_⟩,?_⟩,?_⟩
       ·intro p' _ hp';rw[Nat.add_sub_cancel,hp]at hp';cases hp';simp at h4;omega
       ·refine⟨(eJ @hw3),eE,eE,eE,eE,rfl,rfl⟩
       ·refine sJ @hw3 ?_;omega
     ·have hk0:k=0:=by simp at h3;omega
      refine sI ?_;intros;refine gC ?_;intros;refine gR 46 47 c108r8.eq_1 ?_;intros;refine dT ?_;have hw3:IntKind.i64.wrap ((k:Int)+1)=(k:Int)+1:=by rw[ei] <;> omega
      refine eF ⟨⟨k+1,⟨by omega,ni hch hx' hok fun p h0 _=>absurd h0 (by omega)⟩,?_⟩,?_⟩
      ·refine⟨(eJ @hw3),eE,eE,eE,eE,rfl,rfl⟩
      ·refine sJ @hw3 ?_;omega
  ·have hkl:k=l.length:=by simp at ht;omega
   subst hkl;refine eg ?_;refine sI ?_;intros;refine gR 0 0 c108r9.eq_1 ?_;intros;refine rW ?_;rw[gP,if_pos hch]
theorem Km:∀ (x:Ep) cs,EpE x cs→∀ u∈cs,u.oneCell'=true:=fun x cs h u hu=>by
 rw[h.1]at hu;simp at hu;rcases hu with rfl | rfl <;> rfl
theorem ql(l:List Ep)(v:Value)(G:Ks)(hl:SEp G v l)(hb:l.length≤1000000):
  FnO Tryz.prog 125 #[v] G [] (fun _ L' r=>∃ ys,Cells EpE 2 l ys∧L'=[.row r 151 2 l.length ys]):=by
 refine F125.fnO (by simp) dS (dY ?_);have hl0:=hl;obtain⟨A,c,rfl,hc,hm,hA⟩:=hl;unfold c125;intros;refine gR 0 0 c125r0.eq_1 ?_;intros;refine gR 3 4 c125r1.eq_1 ?_;intros;refine gC ?_;refine gb (fun ht=>?_) (fun ht=>?_)
 ·intros;refine gR 0 0 c125r2.eq_1 ?_;intros;refine dT ?_;have hA0:l=[]:=by
   match l,hA with
   | [],_=>rfl
   | x :: xs,hA=>obtain⟨a,_,ha,_⟩:=hA 0 x rfl;subst ha;cases ht
  subst hA0;refine dU (eA none 151 2) ?_;refine ea (ee _ rfl KJ (dW dS) ?_);exact⟨[],.nil,rfl⟩
 ·intros;refine gR 5 8 c125r3.eq_1 ?_;intro b hb';refine j5 (.inr ⟨⟨_,rfl⟩,rfl,rfl,rfl,rfl⟩) hl0 rfl Km (by unfold maxLen;omega) fun ys A c hc=>?_
  simp only[Nat.zero_add];refine sI ?_;intros;refine dT ?_;refine ea (ee _ rfl KJ (dW dS) ?_);exact⟨ys,hc,rfl⟩
noncomputable def mY(l:List Ep)(n s:Int):List Ep × Int :=
 if gP l≠0∨¬ okE (n,s)=true then([],1)else
 match l[l.length - 1]? with
 | none=>([(n,s)],0)
 | some p=>if n < p.1 then([],100)else if n=p.1 then(l,0)else if s < p.2 then([],71)else if s=p.2 then(l.set (l.length - 1) (n,s),0)else(l++[(n,s)],0)
theorem xE {l : List Ep} {n s : Int} (h1 : gP l = 0) (hok : okE (n, s) = true) : mY l n s = match l[l.length - 1]? with
     | none=>([(n,s)],0)
     | some p=>if n < p.1 then([],100)else if n=p.1 then(l,0)else if s < p.2 then([],71)else if s=p.2 then(l.set (l.length - 1) (n,s),0)else(l++[(n,s)],0):=by
 rw[mY,if_neg];simp[h1,hok]
def DG(l:List Ep)(n s:Int)(L':Kv)(r:Value):Prop :=
 ∃ u,r=.tuple #[u,.int .i64 (mY l n s).2]∧∃ ys,Cells EpE 2 (mY l n s).1 ys∧L'=[.row u 151 2 (mY l n s).1.length ys]
theorem Du(l:List Ep)(n s:Int)(v:Value)(G:Ks)(hl:SEp G v l)(hb:l.length≤1000000)(in1:I64 n)(is1:I64 s):
  FnO Tryz.prog 70 #[v,.int .i64 n,.int .i64 s] G [] (fun _ L' r=>DG l n s L' r):=by
 refine F70.fnO (by simp) dS (dY ?_);have hl0:=hl;obtain⟨A,c,rfl,hc,hm,hA⟩:=hl;have herr:∀ code:Int,mY l n s=([],code)→∀ e:Env,e 6=.slice none 0 0→e 7=.int .i64 code→∀ h:H,h.D=[]→fI o70 (fun r h'=>DG l n s h'.L r) .ret e h:=fun code hp e h6 h7 h hD=>by
  obtain⟨G',L,D⟩:=h;dsimp only at hD;subst hD;refine⟨[.slice none 0 0,.int .i64 code],by simp only[mR,o70,h6,h7];rfl,_,(dX (List.nil_sublist L)).trans (eA none 151 2),dW dS,?_⟩;refine⟨_,by rw[hp];rfl,[],?_,?_⟩
  ·rw[hp];exact .nil
  ·rw[hp];rfl
 unfold c70;intros;refine gR 0 0 c70r0.eq_1 ?_;intros;refine gR 11 23 c70r1.eq_1 ?_;refine(jH _ _ _ hl0 _ _).mono ?_;rintro v h' ⟨rfl,rfl⟩;refine sI ?_;refine gd (fun h1=>?_) (fun h1=>?_)
 ·refine sI ?_;intros;refine gC ?_;intros;refine gR 0 0 c70r2.eq_1 ?_;intros;refine dT ?_;refine ea (herr 1 ?_ _ (eE) (eE) _ rfl);rw[mY,if_pos];left;simpa using h1
 refine sI ?_;refine(kT .. |>.mono ?_)
 rintro v h' ⟨rfl,rfl⟩;refine sI ?_;have h1:gP l=0:=by simpa using h1
 refine gd (fun h2=>?_) (fun h2=>?_)
 ·refine sI ?_;intros;refine gC ?_;intros;refine gR 0 0 c70r2.eq_1 ?_;intros;refine dT ?_;refine ea (herr 1 ?_ _ (eE) (eE) _ rfl);rw[mY,if_pos];right;simp[okE]at h2 ⊢;omega
 refine sI ?_;refine(kT .. |>.mono ?_)
 rintro v h' ⟨rfl,rfl⟩;refine sI ?_;intros;refine gC ?_;refine gb (fun h3=>?_) (fun h3=>?_)
 ·intros;refine gR 0 0 c70r2.eq_1 ?_;intros;refine dT ?_;refine ea (herr 1 ?_ _ (eE) (eE) _ rfl);rw[mY,if_pos];right;simp[okE]at h3 ⊢;omega
 have hok:okE (n,s)=true:=by simp at h2 h3;simp[okE];omega
 have hput:=xE h1 hok;intros;refine gR 24 29 c70r3.eq_1 ?_;refine(ql l _ G hl0 hb [] []).mono ?_;rintro u h' ⟨G',L',rfl,hg,ys,hys,rfl⟩;refine sI ?_;intros;refine gR 29 31 c70r4.eq_1 ?_;intros;refine gC ?_;refine gb (fun h4=>?_) (fun h4=>?_)
 ·have hl4:l=[]:=by simpa using h4
  subst hl4;have hys0:ys=[]:=by cases hys;rfl
  subst hys0;intros;refine gR 32 36 c70r5.eq_1 ?_;intro b hb';refine⟨[.row (.slice (some ⟨b,0,none⟩) 1 1) 151 2 1 [.int .i64 n,.int .i64 s],.reg 9 [.int .i64 n,.int .i64 s]],0,[],[],1,[.int .i64 n,.int .i64 s],.inl rfl,kO (.head _) ?_ rfl,by decide,fun A' c'=>?_⟩
  ·intro u hu;simp at hu;rcases hu with rfl | rfl <;> rfl
  ·refine sI ?_;intros;refine dT ?_;refine ea (ee [.row (.slice A' 1 c') 151 2 1 [.int .i64 n,.int .i64 s]] rfl (.cons _ (.cons _ KJ)) (dW dS) ?_);refine⟨_,by rw[hput];rfl,[.int .i64 n,.int .i64 s],?_,by rw[hput];rfl⟩;rw[hput];exact .one ⟨rfl,in1,is1⟩ rfl
 have hl4:0 < l.length:=by simp at h4;exact List.length_pos_iff.2 h4
 obtain⟨p,hp⟩:∃ p,l[l.length - 1]?=some p:=⟨l[l.length - 1],getElem?_eq_getElem (by omega)⟩;rw[hp]at hput;dsimp only at hput;intros;refine dT ?_;refine eI (iE (v:=u) (et:=151) (sz:=2) (n:=l.length) (xs:=ys) (by simp) hl4) ?_;rintro h' ⟨rfl,g,cu,rfl,hc1,hc2⟩;obtain⟨cs,⟨rfl,ip1,ip2⟩,_,hld⟩:=hys.get hp;intros;refine gR2 36 41 c70r6.eq_1 (xi l.length hl4 (by omega)) ?_;refine⟨by omega,_,rfl,?_⟩
 have hrow:Item.row (Value.slice (some ⟨g,0,none⟩) l.length cu) 151 2 l.length ys∈[Item.reg 9 [Value.int IntKind.i64 n,Value.int IntKind.i64 s],Item.row (Value.slice (some ⟨g,0,none⟩) l.length cu) 151 2 l.length ys]:=by simp
 have hlp:ys.length=l.length * 2:=hys.len;intros;refine gR2 46 52 c70r7.eq_1 @Nat.zero_add ?_;refine⟨_,ff hrow (hld 0 _ rfl),?_⟩;refine sI ?_;intros;refine gC ?_;refine gb (fun h5=>?_) (fun h5=>?_)
 ·intros;refine gR 0 0 c70r8.eq_1 ?_;intros;refine dT ?_;refine ea (herr 100 ?_ _ (eE) (eE) _ rfl);rw[hput,if_pos (by simpa using h5)]
 rw[if_neg (by simpa using h5)]at hput;intros;refine gR2 53 59 c70r9.eq_1 @Nat.zero_add ?_;refine⟨_,ff hrow (hld 0 _ rfl),?_⟩;refine sI ?_;have hend:∀ (e:Env) (u:Value) (zs:List Ep) (zc:Kt) (L1 L2:Kv) (_:mY l n s=(zs,0)) (_:Cells EpE 2 zs zc) (_:e 8=u),
   go none Tryz.prog 77 v70.1 v70.2 (fI o70 fun v h=>DG l n s h.L v) [Td.s (SC.reg false c70r15),Td.s SC.ret] e ⟨G',L1++.row u 151 2 zs.length zc :: L2,[]⟩:=fun e u zs zc L1 L2 h6 h7 h8=>by
  intros;refine gR2 76 77 c70r15.eq_1 @h8 ?_;intros;refine dT ?_;refine ea (ee [.row u 151 2 zs.length zc] rfl (by
   refine List.Sublist.trans ?_ (List.sublist_append_right _ _)
   simp) (dW dS) ?_)
  exact⟨_,by rw[h6];rfl,zc,by rw[h6];exact h7,by rw[h6];rfl⟩
 intros;refine gC ?_;refine gb (fun h6=>?_) (fun h6=>?_)
 ·intros;refine dT ?_;rw[if_pos (by simpa using h6)]at hput;exact hend _ (.slice (some ⟨g,0,none⟩) l.length cu) l ys [_] [] hput hys rfl
 rw[if_neg (by simpa using h6)]at hput;intros;refine gR2 60 66 c70r10.eq_1 @Nat.zero_add ?_;refine⟨_,ff hrow (hld 1 _ rfl),?_⟩;refine sI ?_;intros;refine gC ?_;refine gb (fun h7=>?_) (fun h7=>?_)
 ·intros;refine gR 0 0 c70r11.eq_1 ?_;intros;refine dT ?_;refine ea (herr 71 ?_ _ (eE) (eE) _ rfl);rw[hput,if_pos (by simpa using h7)]
 rw[if_neg (by simpa using h7)]at hput;intros;refine gR2 67 73 c70r12.eq_1 @Nat.zero_add ?_;refine⟨_,ff hrow (hld 1 _ rfl),?_⟩;refine sI ?_;intros;refine gC ?_;refine gb (fun h8=>?_) (fun h8=>?_)
 ·rw[if_pos (by simpa using h8)]at hput;intros;refine gR2 73 76 c70r13.eq_1 @Nat.zero_add ?_;refine fG [Item.reg 9 [Value.int IntKind.i64 n,Value.int IntKind.i64 s]] [] rfl (by rw[hlp];simp;omega) ⟨rfl,rfl⟩ ?_;refine sI ?_;intros;refine dT ?_
  have hz:=fun e he=>hend e (.slice (some ⟨g,0,none⟩) l.length cu) _ _ [.reg 9 [.int .i64 n,.int .i64 s]] [] hput (hys.set (k:=l.length - 1) (x:=(n,s)) (by omega) ⟨rfl,in1,is1⟩ rfl) he
  simp only[List.length_set]at hz;exact hz _ rfl
 ·rw[if_neg (by simpa using h8)]at hput;intros;refine gR 41 45 c70r14.eq_1 ?_;intro b hb';refine⟨[.row (.slice (some ⟨b,0,none⟩) 1 1) 151 2 1 [.int .i64 n,.int .i64 s],.reg 9 [.int .i64 n,.int .i64 s]],l.length,ys,[],1,[.int .i64 n,.int .i64 s],.inl rfl,kO (.head _) ?_ rfl,by unfold maxLen;omega,fun A' c'=>?_⟩
  ·intro u hu;simp at hu;rcases hu with rfl | rfl <;> rfl
  ·refine sI ?_;intros;refine dT ?_;have hz:=fun e he=>hend e (.slice A' (l.length+1) c') _ _ [.row (.slice (some ⟨b,0,none⟩) 1 1) 151 2 1 [.int .i64 n,.int .i64 s],.reg 9 [.int .i64 n,.int .i64 s]] [] hput (hys.app (.one ⟨rfl,in1,is1⟩ rfl)) he
   simp only[length_append,List.length_cons,List.length_nil,Nat.zero_add]at hz;exact hz _ rfl
end Go.Proofs.YtpmofpekcbghnaaGreat
namespace Go.Proofs.YtpmofpekcbghnaaGreat
open Go Go.Kx
open List (getElem?_eq_getElem mem_of_getElem? length_append append_nil take_length)
theorem F144:Fun Tryz.prog 144 26 v144 c144 o144:=Fun.mkA Tryz.func144 Tryz.ntmps144
theorem F183:Fun Tryz.prog 183 9 v183 c183 o183:=Fun.mkA Tryz.func183 Tryz.ntmps183
theorem F204:Fun Tryz.prog 204 12 v204 c204 o204:=Fun.mkA Tryz.func204 Tryz.ntmps204
theorem F160:Fun Tryz.prog 160 33 v160 c160 o160:=Fun.mkA Tryz.func160 Tryz.ntmps160
theorem F90:Fun Tryz.prog 90 17 v90 c90 o90:=Fun.mkA Tryz.func90 Tryz.ntmps90
theorem F145:Fun Tryz.prog 145 12 v145 c145 o145:=Fun.mkA Tryz.func145 Tryz.ntmps145
theorem rB(n:Nat)(hn:n < 9223372036854775808)(p:Nat→Bool)(g:Nat)(cap:Array Value)(G:Ks)(hp:∀ i:Nat,i < n→FnS Tryz.prog g (#[.int .i64 i]++cap) G (.bool (p i))):
  FnE Tryz.prog 144 #[.int .i64 n,.func (.func g) #[] cap] G (fun r=>∃ j:Nat,j≤n∧r=.int .i64 j∧(j < n→p j=true)∧(0 < j→p (j - 1)=false)):=by
 refine F144.fnE (by simp) (dY ?_);unfold c144;intros;refine gR 0 0 c144r0.eq_1 ?_;intros;refine gR 8 9 c144r1.eq_1 ?_;intros;refine dT ?_;refine ej (fun e h=>∃ i j:Nat,(i≤j∧j≤n)∧((j < n→p j=true)∧(0 < i→p (i - 1)=false))∧e 5=.int .i64 i∧e 6=.int .i64 j∧e 1=.func (.func g) #[] cap∧h=⟨G,[],[]⟩) (fun e h=>iv (e 6) - iv (e 5)) ?_ ?_
 ·exact⟨0,n,⟨by omega,by omega⟩,⟨fun h=>absurd h (by omega),fun h=>absurd h (by omega)⟩,eE,eE,eE,rfl⟩
 ·rintro e h ⟨i,j,⟨hij,hjn⟩,⟨h1,h2⟩,e5,e6,e1,rfl⟩;refine dV [1,5,6] ?_;refine sJ3 @e5 @e6 @e1 ?_;intros;refine gR 9 11 c144r2.eq_1 ?_;intros;refine gC ?_;refine gb (fun ht=>?_) (fun ht=>?_)
  ·have hlt:i < j:=by simpa using ht
   obtain⟨m,hm1,hm2,hh,hv⟩:∃ m:Nat,i≤m∧m < j∧fq .shr (.int .u64 (IntKind.u64.wrap (IntKind.i64.wrap ((i:Int)+j)))) (.int .u64 1)=some (.int .u64 (m:Int))∧IntKind.i64.wrap (m:Int)=m :=
    ⟨(i+j) / 2,by omega,by omega,Hi i j (by omega),cvh i j (by omega)⟩
   intros;refine gr 12 18 ?_;refine sJ3 c144r3.eq_1 @hh @hv ?_;intros;refine gR 18 21 c144r4.eq_1 ?_;refine .inl ⟨g,cap,rfl,(hp m (by omega) [] []).mono ?_⟩;rintro v h' ⟨rfl,rfl⟩;refine sI ?_;intros;refine gC ?_;refine gb (fun h3=>?_) (fun h3=>?_)
   ·have hw:IntKind.i64.wrap ((m:Int)+1)=(m:Int)+1:=by rw[ei] <;> omega
    intros;refine gR2 22 24 c144r5.eq_1 @hw ?_;intros;refine dT ?_;refine eF ⟨⟨m+1,j,⟨by omega,by omega⟩,⟨h1,fun _=>by simpa using h3⟩,(eJ @hw),eE,eE,rfl⟩,?_⟩;refine sJ @hw ?_;omega
   ·intros;refine gR 24 25 c144r6.eq_1 ?_;intros;refine dT ?_;refine eF ⟨⟨i,m,⟨by omega,by omega⟩,⟨fun _=>by simpa using h3,h2⟩,eE,eE,eE,rfl⟩,?_⟩;refine sI ?_;omega
  ·have hij':i=j:=by simp at ht;omega
   subst hij';refine eg ?_;refine sI ?_;intros;refine gR 25 26 c144r7.eq_1 ?_;intros;refine rW ?_;exact⟨i,hjn,rfl,h1,h2⟩
def qA(l:List Ep)(n:Int)(j:Nat):Prop:=j≤l.length∧(∀ x,l[j]?=some x→n < x.1)∧∀ x,0 < j→l[j - 1]?=some x→x.1≤n
theorem xR(l:List Ep)(A:Ky)(c:Nat)(n:Int)(G:Ks)(b1 b2:Nat)(hA:SlA G EpE 2 A l)(h1:fB G ⟨b1,0,none⟩=some (.slice A l.length c))(h2:fB G ⟨b2,0,none⟩=some (.int .i64 n))(i:Nat)(x:Ep)(hx:l[i]?=some x):
  FnS Tryz.prog 204 #[.int .i64 i,.pointer (some ⟨b1,0,none⟩),.pointer (some ⟨b2,0,none⟩)] G (.bool (decide (n < x.1))):=by
 refine F204.fnS (by simp) (dY ?_);unfold c204;intros;refine gR 0 0 c204r0.eq_1 ?_;intros;refine dT ?_;refine qB 5 12 (by decide) ?_;refine sJ c204r1.eq_1 ?_;refine⟨_,⟨_,rfl,.g h1⟩,?_⟩;refine sI ?_;refine hA.y_lf hx rfl rfl (fun cs h=>by rw[h.1];rfl) fun a ha=>?_
 refine sI ?_;refine⟨_,⟨_,rfl,.g h2⟩,?_⟩;refine sI ?_;intros;refine rV ?_;simp only[push_cast,Nat.reduceBEq]
theorem AB(l:List Ep)(n:Int)(v:Value)(G:Ks)(hl:SEp G v l)(hb:l.length≤1000000):
  FnE Tryz.prog 183 #[v,.int .i64 n] G (fun r=>∃ j:Nat,r=.int .i64 j∧qA l n j):=by
 refine F183.fnE (by simp) (dY ?_);obtain⟨A,c,rfl,hc,hm,hA⟩:=hl;unfold c183;intros;refine gR 0 0 c183r0.eq_1 ?_;intro b1 hb1 b2 hb2;intros;refine dT ?_;refine eI jx ?_;rintro h' ⟨G1,rfl,hg1,hc1⟩;refine eI jx ?_;rintro h' ⟨G2,rfl,hg2,hc2⟩;have e1:=hc2 0 _ rfl;have e2:=em hg2 (hc1 0 _ rfl);rw[eV]at e1 e2;have hA2:SlA G2 EpE 2 A l:=(hA.le hg1 KO).le hg2 KO;intros;refine gR 5 9 c183r1.eq_1 ?_
 refine⟨_,⟨_,rfl,.g e1⟩,?_⟩;refine sI ?_;refine(rB l.length (by omega) (fun i=>decide (∃ x,l[i]?=some x∧n < x.1)) 204 #[.pointer (some ⟨b1,0,none⟩),.pointer (some ⟨b2,0,none⟩)] G2 (fun i hi=>?_) [] []).mono ?_
 ·obtain⟨x,hx⟩:∃ x,l[i]?=some x:=⟨l[i],getElem?_eq_getElem (by omega)⟩;have:=xR l A c n G2 b1 b2 hA2 e1 e2 i x hx;have he:decide (∃ x,l[i]?=some x∧n < x.1)=decide (n < x.1):=by simp[hx]
  rw[he];exact this
 ·rintro r h' ⟨⟨j,hj,rfl,h1,h2⟩,rfl⟩;refine sI ?_;intros;refine rW ?_;refine⟨j,rfl,hj,fun x hx=>?_,fun x h0 hx=>?_⟩
  ·have:=h1 (List.getElem?_eq_some_iff.1 hx).1;simpa [hx]using this
  ·have:=h2 h0;simpa [hx]using this
def BZ(l:List Ep)(n en w o:Int):Prop :=
 (gP l≠0∧w=-1∧o=0)∨(gP l=0∧∃ j,qA l n j∧((j=0∧w=-1∧o=0)∨∃ x,0 < j∧l[j - 1]?=some x∧w=x.1∧o=(l[j]?.map (·.2)).getD en))
theorem rE(l:List Ep)(n en:Int)(v:Value)(G:Ks)(hl:SEp G v l)(hb:l.length≤1000000):
  FnE Tryz.prog 160 #[v,.int .i64 n,.int .i64 en] G (fun r=>∃ w o,r=.tuple #[.int .i64 w,.int .i64 o]∧BZ l n en w o):=by
 refine F160.fnE (by simp) (dY ?_);have hl0:=hl;obtain⟨A,c,rfl,hc,hm,hA⟩:=hl;unfold c160;intros;refine gR 0 0 c160r0.eq_1 ?_;intros;refine gR 0 0 c160r1.eq_1 ?_;intros;refine gR 9 11 c160r2.eq_1 ?_;refine(jH _ _ _ hl0 _ _).mono ?_;rintro v h' ⟨rfl,rfl⟩;refine sI ?_;intros;refine gC ?_
 have hend:∀ (e:Env) (j:Nat),e 0=.slice A l.length c→e 2=.int .i64 en→e 8=.int .i64 j→(j=0∧gP l≠0)∨(gP l=0∧qA l n j) →
   go none Tryz.prog 33 v160.1 v160.2 (fI o160 fun r x=>∃ w o,r=.tuple #[.int .i64 w,.int .i64 o]∧BZ l n en w o)
    [Td.s (SC.seq (.seq (.reg false c160r4) (.cond (.t 16) (.seq (.reg false c160r5) .ret) .skip)) (.seq (.seq (.reg false c160r6) (.cond (.t 20) (.reg false c160r7) .skip)) (.seq (.reg false c160r8) .ret)))] e ⟨G,[],[]⟩:=fun e j e0 e2 e8 hj=>by
  refine dV [0,2,8] ?_;refine sJ3 @e0 @e2 @e8 ?_;intros;refine gR 15 16 c160r4.eq_1 ?_;intros;refine gC ?_;refine gb (fun h1=>?_) (fun h1=>?_)
  ·have hj0:j=0:=by simpa using h1
   intros;refine gR 0 0 c160r5.eq_1 ?_;intros;refine rW ?_;refine⟨_,_,rfl,?_⟩;rcases hj with⟨_,h2⟩ | ⟨h2,h3⟩
   ·exact .inl ⟨h2,rfl,rfl⟩
   ·exact .inr ⟨h2,j,h3,.inl ⟨hj0,rfl,rfl⟩⟩
  ·have hj0:0 < j:=by simp at h1;omega
   obtain⟨h2,h3⟩:gP l=0∧qA l n j:=by rcases hj with⟨h2,_⟩ | h2;omega;exact h2
   obtain⟨x,hx⟩:∃ x,l[j - 1]?=some x:=⟨l[j - 1]'(by have:=h3.1;omega),getElem?_eq_getElem _⟩;have hlast:∀ (e:Env) (b:Int),e 0=.slice A l.length c→e 2=.int .i64 b→e 8=.int .i64 j→b=(l[j]?.map (·.2)).getD en →
    go none Tryz.prog 33 v160.1 v160.2 (fI o160 fun r x=>∃ w o,r=.tuple #[.int .i64 w,.int .i64 o]∧BZ l n en w o) [Td.s (SC.seq (.reg false c160r8) .ret)] e ⟨G,[],[]⟩:=fun e b e0 e2 e8 hb'=>by
    intros;refine gr 26 33 ?_;(refine sJ5 c160r8.eq_1 @e0 @e2 @e8 (xi j hj0 (by have:=h3.1;omega)) ?_);refine hA.x_lf hx rfl rfl (fun cs h=>by rw[h.1];rfl) fun a ha=>?_
    refine sJ @e2 ?_;intros;refine rW ?_;refine⟨_,_,rfl,.inr ⟨h2,j,h3,.inr ⟨x,hj0,hx,rfl,hb'⟩⟩⟩
   intros;refine gR 17 20 c160r6.eq_1 ?_;intros;refine gC ?_;refine gb (fun h4=>?_) (fun h4=>?_)
   ·obtain⟨y,hy⟩:∃ y,l[j]?=some y:=⟨l[j]'(by simpa using h4),getElem?_eq_getElem _⟩;intros;refine gR 21 26 c160r7.eq_1 ?_;refine hA.x_lf hy rfl rfl (fun cs h=>by rw[h.1];rfl) fun a ha=>?_
    refine sI ?_;intro b;refine hlast _ y.2 (eE) (eE) (eE) (by rw[hy];rfl)
   ·refine eK ?_;refine hlast _ en (eE) (eE) (eE) ?_;rw[List.getElem?_eq_none (by simpa using h4)];rfl
 refine gb (fun h1=>?_) (fun h1=>?_)
 ·have h1:gP l=0:=by simpa using h1
  intros;refine gR 12 15 c160r3.eq_1 ?_;refine(AB l n _ G hl0 hb [] []).mono ?_;rintro r h' ⟨⟨j,rfl,hj⟩,rfl⟩;refine sI ?_;intro b;refine hend _ j ?_ ?_ ?_ (.inr ⟨h1,hj⟩) <;> exact eE
 ·refine eK ?_;refine hend _ 0 ?_ ?_ ?_ (.inl ⟨rfl,by simpa using h1⟩) <;> exact eE
theorem kJ{l:List Ep}(h:gP l=0){i k:Nat}{x y:Ep}(hik:i < k)(hx:l[i]?=some x)(hy:l[k]?=some y):x.1 < y.1∧x.2 < y.2:=by
 have hc:Chk l l.length:=by
  unfold gP at h;split at h
  ·assumption
  ·omega
 induction k generalizing y with
 | zero=>omega
 | succ k ih =>
  have hlt:=(List.getElem?_eq_some_iff.1 hy).1;obtain⟨z,hz⟩:∃ z,l[k]?=some z:=⟨l[k],getElem?_eq_getElem (by omega)⟩;have h1:=(hc (k+1) y hlt hy).2 z (by omega) (by simpa using hz);by_cases hk:i=k
  ·subst hk;rw[hx]at hz;cases hz;exact h1
  ·have:=ih (by omega) hz;omega
theorem Bi{l:List Ep}(h:gP l=0){i:Nat}{x:Ep}(hx:l[i]?=some x):okE x=true:=by
 have hc:Chk l l.length:=by
  unfold gP at h;split at h
  ·assumption
  ·omega
 exact(hc i x (List.getElem?_eq_some_iff.1 hx).1 hx).1
theorem su{l:List Ep}(h:gP l=0){n:Int}{j j':Nat}(h1:qA l n j)(h2:qA l n j'):j=j':=by
 have key:∀ {a b:Nat},qA l n a→qA l n b→¬ a < b:=fun {a b} ha hb hab=>by
  have hbl:=hb.1;obtain⟨x,hx⟩:∃ x,l[a]?=some x:=⟨l[a],getElem?_eq_getElem (by omega)⟩;obtain⟨y,hy⟩:∃ y,l[b - 1]?=some y:=⟨l[b - 1],getElem?_eq_getElem (by omega)⟩;have h3:=ha.2.1 x hx;have h4:=hb.2.2 y (by omega) hy;by_cases hab':a=b - 1
  ·subst hab';rw[hx]at hy;cases hy;omega
  ·have:=(kJ h (show a < b - 1 by omega) hx hy).1;omega
 have:=key h1 h2;have:=key h2 h1;omega
theorem sV{l:List Ep}{n en w o w' o':Int}(h1:BZ l n en w o)(h2:BZ l n en w' o'):w=w'∧o=o':=by
 rcases h1 with⟨a,rfl,rfl⟩ | ⟨a,j,hj,hr⟩ <;> rcases h2 with⟨b,rfl,rfl⟩ | ⟨b,j',hj',hr'⟩
 ·exact⟨rfl,rfl⟩
 ·exact absurd b a
 ·exact absurd a b
 ·have:=su a hj hj';subst this;rcases hr with⟨r0,rfl,rfl⟩ | ⟨x,r0,r1,rfl,rfl⟩ <;> rcases hr' with⟨r0',rfl,rfl⟩ | ⟨x',r0',r1',rfl,rfl⟩
  ·exact⟨rfl,rfl⟩
  ·omega
  ·omega
  ·rw[r1]at r1';cases r1';exact⟨rfl,rfl⟩
theorem yk{l:List Ep}{en w o:Int}{k:Nat}{x:Ep}(h:gP l=0)(hx:l[k]?=some x)(hr:BZ l x.1 en w o):w=x.1∧o=(l[k+1]?.map (·.2)).getD en:=by
 have hk:=(List.getElem?_eq_some_iff.1 hx).1;refine sV hr (.inr ⟨h,k+1,⟨by omega,fun y hy=>(kJ h (Nat.lt_succ_self k) hx hy).1,fun y _ hy=>?_⟩,.inr ⟨x,by omega,by simpa using hx,rfl,rfl⟩⟩);rw[Nat.add_sub_cancel,hx]at hy;cases hy;omega
noncomputable def m6(l:List Ep)(off:Int):List Ep:=l.filter fun x=>decide (gP l=0) && decide (x.2 < off)
def Cz(zs:List Ep)(L':Kv)(r:Value):Prop:=∃ ys,Cells EpE 2 zs ys∧L'=[.row r 151 2 zs.length ys]
theorem y4(l:List Ep)(A:Ky)(c:Nat)(n:Int)(G:Ks)(b1 b2:Nat)(hA:SlA G EpE 2 A l)(h1:fB G ⟨b1,0,none⟩=some (.slice A l.length c))(h2:fB G ⟨b2,0,none⟩=some (.int .i64 n))(i:Nat)(x:Ep)(hx:l[i]?=some x):
  FnS Tryz.prog 145 #[.int .i64 i,.pointer (some ⟨b1,0,none⟩),.pointer (some ⟨b2,0,none⟩)] G (.bool (decide (n≤x.2))):=by
 refine F145.fnS (by simp) (dY ?_);unfold c145;intros;refine gR 0 0 c145r0.eq_1 ?_;intros;refine dT ?_;refine qB 5 12 (by decide) ?_;refine sJ c145r1.eq_1 ?_;refine⟨_,⟨_,rfl,.g h1⟩,?_⟩;refine sI ?_;refine hA.y_lf hx rfl rfl (fun cs h=>by rw[h.1];rfl) fun a ha=>?_
 refine sI ?_;refine⟨_,⟨_,rfl,.g h2⟩,?_⟩;refine sI ?_;intros;refine rV ?_;simp only[push_cast,Nat.reduceBEq]
theorem vD{l:List Ep}(h:gP l=0){off:Int}{j:Nat}(hj:j≤l.length)(h1:∀ x,l[j]?=some x→off≤x.2)(h2:∀ x,0 < j→l[j - 1]?=some x→x.2 < off):m6 l off=l.take j:=by
 have e:l=l.take j++l.drop j:=(List.take_append_drop j l).symm;have h3:(l.take j).filter (fun x=>decide (gP l=0) && decide (x.2 < off))=l.take j:=by
  rw[List.filter_eq_self];intro x hx;obtain⟨i,hi⟩:=List.getElem?_of_mem hx;rw[List.getElem?_take]at hi;split at hi
  ·rename_i hij;obtain⟨y,hy⟩:∃ y,l[j - 1]?=some y:=⟨l[j - 1],getElem?_eq_getElem (by omega)⟩;have h4:=h2 y (by omega) hy;have:x.2 < off:=by
    by_cases hij':i=j - 1
    ·subst hij';rw[hi]at hy;cases hy;exact h4
    ·have:=(kJ h (show i < j - 1 by omega) hi hy).2;omega
   simp[h,this]
  ·cases hi
 have h4:(l.drop j).filter (fun x=>decide (gP l=0) && decide (x.2 < off))=[]:=by
  rw[List.filter_eq_nil_iff];intro x hx;obtain⟨i,hi⟩:=List.getElem?_of_mem hx;rw[List.getElem?_drop]at hi;obtain⟨y,hy⟩:∃ y,l[j]?=some y:=⟨l[j]'(by have:=(List.getElem?_eq_some_iff.1 hi).1;omega),getElem?_eq_getElem _⟩;have h4:=h1 y hy;have:off≤x.2:=by
   by_cases hij':i=0
   ·subst hij';rw[Nat.add_zero]at hi;rw[hi]at hy;cases hy;exact h4
   ·have:=(kJ h (show j < j+i by omega) hy hi).2;omega
  simp;intro _;omega
 unfold m6;have h5:=List.filter_append (p:=fun x=>decide (gP l=0) && decide (x.2 < off)) (l.take j) (l.drop j);rw[← e,h3,h4,append_nil]at h5;exact h5
theorem Ch(l:List Ep)(off:Int)(v:Value)(G:Ks)(hl:SEp G v l)(hb:l.length≤1000000):
  FnO Tryz.prog 90 #[v,.int .i64 off] G [] (fun _ L' r=>Cz (m6 l off) L' r):=by
 refine F90.fnO (by simp) dS (dY ?_);obtain⟨A,c,rfl,hc,hm,hA⟩:=hl;unfold c90;intros;refine gR 0 0 c90r0.eq_1 ?_;intro b1 hb1 b2 hb2;intros;refine dT ?_;refine eI jx ?_;rintro h' ⟨G1,rfl,hg1,hc1⟩;refine eI jx ?_;rintro h' ⟨G2,rfl,hg2,hc2⟩;have e1:=hc2 0 _ rfl;have e2:=em hg2 (hc1 0 _ rfl);rw[eV]at e1 e2;have hA2:SlA G2 EpE 2 A l:=(hA.le hg1 KO).le hg2 KO
 have hl2:SEp G2 (.slice A l.length c) l:=⟨A,c,rfl,hc,hm,hA2⟩;intros;refine gR 6 8 c90r1.eq_1 ?_;refine⟨_,⟨_,rfl,.g e1⟩,?_⟩;refine sI ?_;refine(jH _ _ _ hl2 _ _).mono ?_;rintro v h' ⟨rfl,rfl⟩;refine sI ?_;intros;refine gC ?_;refine gb (fun h1=>?_) (fun h1=>?_)
 ·intros;refine gR 0 0 c90r2.eq_1 ?_;intros;refine dT ?_;refine dU (eA none 151 2) ?_;refine ea (ee _ rfl KJ (dW dS) ?_);have:m6 l off=[]:=by
   unfold m6;rw[List.filter_eq_nil_iff];intro x _;simp at h1;simp[h1]
  exact⟨[],by rw[this];exact .nil,by rw[this];rfl⟩
 have h1:gP l=0:=by simpa using h1
 intros;refine gR 9 13 c90r3.eq_1 ?_;refine⟨_,⟨_,rfl,.g e1⟩,?_⟩;refine sI ?_;refine(rB l.length (by omega) (fun i=>decide (∃ x,l[i]?=some x∧off≤x.2)) 145 #[.pointer (some ⟨b1,0,none⟩),.pointer (some ⟨b2,0,none⟩)] G2 (fun i hi=>?_) [] []).mono ?_
 ·obtain⟨x,hx⟩:∃ x,l[i]?=some x:=⟨l[i],getElem?_eq_getElem (by omega)⟩;have:=y4 l A c off G2 b1 b2 hA2 e1 e2 i x hx;have he:decide (∃ x,l[i]?=some x∧off≤x.2)=decide (off≤x.2):=by simp[hx]
  rw[he];exact this
 rintro r h' ⟨⟨j,hj,rfl,h2,h3⟩,rfl⟩;have hcut:m6 l off=l.take j:=vD h1 hj (fun x hx=>by
  have:=h2 (List.getElem?_eq_some_iff.1 hx).1
  simpa [hx]using this) (fun x h0 hx=>by
  have:=h3 h0
  simpa [hx]using this)
 refine sI ?_;intros;refine gR 13 17 c90r4.eq_1 ?_;refine⟨_,⟨_,rfl,.g e1⟩,?_⟩;refine sI ?_;refine⟨by omega,?_⟩;have hlt:(l.take j).length=j:=by simp;omega
 have htk:SEp G2 (.slice A j c) (l.take j):=⟨A,c,by rw[hlt],by omega,hm,by
  have:=hA2.cut (l:=0) (n:=j) (B:=A) hj (fun _=>by cases A <;> simp[Addr.add])
  simpa using this⟩
 refine(ql _ _ _ htk (by omega) [] []).mono ?_;rintro r h' ⟨G',L',rfl,hg,ys,hys,rfl⟩;refine sI ?_;intros;refine dT ?_;refine ea (ee _ rfl KJ (dW dS) ?_);exact⟨ys,by rw[hcut];exact hys,by rw[hcut];rfl⟩
theorem F182:Fun Tryz.prog 182 19 v182 c182 o182:=Fun.mkA Tryz.func182 Tryz.ntmps182
theorem F159:Fun Tryz.prog 159 4 v159 c159 o159:=Fun.mkA Tryz.func159 Tryz.ntmps159
theorem F126:Fun Tryz.prog 126 50 v126 c126 o126:=Fun.mkA Tryz.func126 Tryz.ntmps126
def JF(l:List Ep)(_:Ks)(i:Nat)(args:Array Value):Prop:=∃ x,l[i]?=some x∧I64 x.1∧I64 x.2∧args=#[.int .i64 i,.agg #[.int .i64 x.1,.int .i64 x.2]]
theorem BI{n t:Nat}(h:t < n):(List.range n).reverse[t]?=some (n - 1 - t):=by
 rw[List.getElem?_reverse (by simpa using h),List.length_range,List.getElem?_range (by omega)]
theorem FW{n t i:Nat}(h:(List.range n).reverse[t]?=some i):t < n∧i=n - 1 - t:=by
 have h1:t < n:=by have:=(List.getElem?_eq_some_iff.1 h).1;simpa using this
 rw[BI h1]at h;cases h;exact⟨h1,rfl⟩
theorem wY(l:List Ep)(A:Ky)(c b:Nat)(G0:Ks)(hc:l.length≤c)(hm:c≤maxLen)(hA:SlA G0 EpE 2 A l)(h1:fB G0 ⟨b,0,none⟩=some (.slice A l.length c)):
  kZ Tryz.prog 182 #[.pointer (some ⟨b,0,none⟩)] (List.range l.length).reverse (JF l) G0:=by
 intro yl I Ix G L hG hn hI hIx hmo h0 hy L2 D;have hargs:(#[.func (.yield yl) #[] #[]]++#[.pointer (some ⟨b,0,none⟩)]:Array Value)=#[.func (.yield yl) #[] #[],.pointer (some ⟨b,0,none⟩)]:=rfl;rw[hargs];refine(F182.calls (R:=fun _ h=>Gle G h.G∧(I l.length h.G h.L∨∃ i,i < l.length∧Ix i h.G h.L)) (by simp) hn (dY ?_) L2 D).mono ?_
 ·have e1:=em hG h1;unfold c182;intros;refine gR 4 7 c182r0.eq_1 ?_;refine⟨_,⟨_,rfl,.g e1⟩,?_⟩;have hw0:IntKind.i64.wrap ((l.length:Int) - 1)=(l.length:Int) - 1:=by unfold maxLen at hm;rw[ei] <;> omega
  refine sJ @hw0 ?_;intros;refine dT ?_;refine ej (fun e h=>∃ (t:Nat) (G':Ks) (L':Kv),(t≤l.length∧Gle G G'∧eC L'∧I t G' L')∧e 3=.int .i64 ((l.length:Int) - 1 - t)∧e 0=.func (.yield yl) #[] #[]∧e 1=.pointer (some ⟨b,0,none⟩)∧h=⟨G',L',[]⟩) (fun e h=>iv1 (e 3)) ?_ ?_
  ·refine⟨0,G,L,⟨Nat.zero_le _,.refl G,hn,h0⟩,?_,rfl,rfl,rfl⟩;refine sI ?_;simp
  ·rintro e h ⟨t,G',L',⟨ht,hgg,hn',hI'⟩,e3,e0,e1',rfl⟩;refine dV [0,1,3] ?_;refine sJ3 @e0 @e1' @e3 ?_;intros;refine gR 7 8 c182r1.eq_1 ?_;intros;refine gC ?_;refine gb (fun h2=>?_) (fun h2=>?_)
   ·have htl:t < l.length:=by simp at h2;omega
    obtain⟨x,hx⟩:∃ x,l[l.length - 1 - t]?=some x:=⟨l[l.length - 1 - t],getElem?_eq_getElem (by omega)⟩;have e1g:=em hgg e1;have hAg:=(hA.le hG KO).le hgg KO;have hcast:(l.length:Int) - 1 - t=((l.length - 1 - t:Nat):Int):=by omega
    intros;refine gR 11 18 c182r2.eq_1 ?_;refine⟨_,⟨_,rfl,.g e1g⟩,?_⟩;refine sI ?_;refine hAg.x_ld hx hcast rfl ?_;rintro a1 ha1 cs ⟨rfl,i1,i2⟩;refine sI ?_;refine .inr ⟨yl,rfl,?_⟩;refine(rn hy (BI htl) hgg ⟨x,hx,i1,i2,by rw[hcast]⟩ hI').mono ?_;rintro v h' ⟨G2,L3,rfl,hg2,hn2,hr⟩;rcases hr with⟨rfl,hr⟩ | ⟨rfl,hr⟩
    ·refine sI ?_;intros;refine gC ?_;have hw:IntKind.i64.wrap ((l.length:Int) - 1 - t - 1)=(l.length:Int) - 1 - ((t+1:Nat):Int):=by unfold maxLen at hm;rw[ei] <;> omega
     intros;refine gR2 9 11 c182r3.eq_1 @hw ?_;intros;refine dT ?_;refine eF ⟨⟨t+1,G2,L3,⟨by omega,hgg.trans hg2,hn2,hr⟩,eE,eE,eE,rfl⟩,?_⟩;refine sJ @EY ?_;omega
    ·refine sI ?_;intros;refine gC ?_;intros;refine dT ?_;refine ea (ee L3 rfl KJ hn2 ?_);exact⟨hgg.trans hg2,.inr ⟨t,htl,hr⟩⟩
   ·have htl:t=l.length:=by simp at h2;omega
    subst htl;refine eg ?_;refine sI ?_;refine gD ?_;exact⟨[],rfl,⟨G',L',[]⟩,dX KJ,hn',hgg,.inl hI'⟩
 ·rintro v h' ⟨G',L',rfl,hn',hgg,hr⟩;exact⟨G',L',rfl,hgg,hn',by simpa using hr⟩
theorem EC(l:List Ep)(A:Ky)(c:Nat)(G:Ks)(hc:l.length≤c)(hm:c≤maxLen)(hA:SlA G EpE 2 A l):
  FnD Tryz.prog 159 #[.slice A l.length c] G (fun G' r=>∃ b,r=.func (.func 182) #[] #[.pointer (some ⟨b,0,none⟩)]∧kZ Tryz.prog 182 #[.pointer (some ⟨b,0,none⟩)] (List.range l.length).reverse (JF l) G'):=by
 refine F159.fnD (by simp) (dY ?_);unfold c159;intros;refine gR 0 0 c159r0.eq_1 ?_;intro b1 hb1;intros;refine dT ?_;refine eI jx ?_;rintro h' ⟨G1,rfl,hg1,hc1⟩;have e1:=hc1 0 _ rfl;rw[eV]at e1;intros;refine gR 3 4 c159r1.eq_1 ?_;intros;refine rW ?_;exact⟨b1,rfl,wY l A c b1 G1 hc hm (hA.le hg1 KO) e1⟩
def tb(l:List Ep)(i:Nat)(en:Int):Int:=(l[i+1]?.map (·.2)).getD en
def lY(a b:List Ep)(ae be m:Int):Prop :=
 ((gP a≠0∨gP b≠0)∧m=0)∨(gP a=0∧gP b=0 ∧
   (((∀ (i:Nat) (x:Ep) (k:Nat) (y:Ep),a[i]?=some x→b[k]?=some y→x.1≠y.1)∧m=0) ∨
    ∃ (i:Nat) (x:Ep) (k:Nat) (y:Ep),a[i]?=some x∧b[k]?=some y∧x.1=y.1∧(∀ (i':Nat) (x':Ep) (k':Nat) (y':Ep),i < i'→a[i']?=some x'→b[k']?=some y'→x'.1≠y'.1)∧m=min (tb a i ae) (tb b k be)))
theorem sa{b:List Ep}{n be w o:Int}(hb:gP b=0)(hn:0≤n)(hr:BZ b n be w o):
  (w=n∧∃ (k:Nat) (y:Ep),b[k]?=some y∧n=y.1∧o=tb b k be)∨(w≠n∧∀ (k:Nat) (y:Ep),b[k]?=some y→n≠y.1):=by
 by_cases h:∃ (k:Nat) (y:Ep),b[k]?=some y∧n=y.1
 ·obtain⟨k,y,hy,rfl⟩:=h;obtain⟨h1,h2⟩:=yk hb hy hr;exact .inl ⟨h1,k,y,hy,rfl,h2⟩
 ·refine .inr ⟨fun hw=>?_,fun k y hy he=>h ⟨k,y,hy,he⟩⟩;rcases hr with⟨h1,_⟩ | ⟨_,j,_,⟨_,h2,_⟩ | ⟨x,h0,hx,h2,_⟩⟩
  ·exact h1 hb
  ·omega
  ·exact h ⟨_,x,hx,by omega⟩
theorem zv(a b:List Ep)(ae be:Int)(va vb:Value)(G:Ks)(ha:SEp G va a)(hb:SEp G vb b)(hla:a.length≤1000000)(hlb:b.length≤1000000):
  FnE Tryz.prog 126 #[va,.int .i64 ae,vb,.int .i64 be] G (fun r=>∃ m,r=.int .i64 m∧lY a b ae be m):=by
 refine F126.fnE (by simp) (dY ?_);obtain⟨A,c,rfl,hc,hm,hA⟩:=ha;obtain⟨B,d,rfl,hd,hmd,hB⟩:=hb;unfold c126;intros;refine gR 0 0 c126r0.eq_1 ?_;intro b4 hb4 b5 hb5 b6 hb6 b7 hb7 b8 hb8;intros;refine dT ?_;refine eI (eP [_] _) ?_;rintro h' ⟨G1,rfl,hg1,f7⟩;refine eI (eP [_] _) ?_;rintro h' ⟨G2,rfl,hg2,f6⟩;refine eI (eP [_] _) ?_;rintro h' ⟨G3,rfl,hg3,f5⟩;refine eI (eP [_] _) ?_
 rintro h' ⟨G4,rfl,hg4,f4⟩;have e4:=f4 0 _ rfl;have e5:=em hg4 (f5 0 _ rfl);have e6:=em hg4 (em hg3 (f6 0 _ rfl));have e7:=em hg4 (em hg3 (em hg2 (f7 0 _ rfl)));rw[eV]at e4 e5 e6 e7;have hgg:Gle G G4:=((hg1.trans hg2).trans hg3).trans hg4;have hA4:=hA.le hgg KO;have hB4:=hB.le hgg KO;have ha4:SEp G4 (.slice A a.length c) a:=⟨A,c,rfl,hc,hm,hA4⟩
 have hb4':SEp G4 (.slice B b.length d) b:=⟨B,d,rfl,hd,hmd,hB4⟩;have hbad:∀ (fr:KA) (e:Env),(gP a≠0∨gP b≠0)→e 8=.pointer (some ⟨b8,0,none⟩)→go none Tryz.prog 50 v126.1 v126.2 (fI o126 fun v h=>∃ m,v=.int .i64 m∧lY a b ae be m) (Td.s ((SC.reg false c126r2).seq .ret) :: fr) e ⟨G4,[.blk b8 [.int .i64 0]],[]⟩:=fun fr e hbd e8=>by
  intros;refine gR2 0 0 c126r2.eq_1 @e8 ?_;refine ek [] [] rfl (by simp) ⟨rfl,rfl⟩ ?_;refine sI ?_;intros;refine dT ?_;refine ea (kd (Bq (b:=b8) (v:=.int .i64 0) ((eJ @e8)) (Bd _ _ _)) ?_);exact⟨0,rfl,.inl ⟨hbd,rfl⟩⟩
 intros;refine gR 15 22 c126r1.eq_1 ?_;refine⟨_,⟨_,rfl,.g e4⟩,?_⟩;refine sI ?_;refine(jH _ _ _ ha4 _ _).mono ?_;rintro v h' ⟨rfl,rfl⟩;refine sI ?_;refine gd (fun h1=>?_) (fun h1=>?_)
 ·refine sI ?_;intros;refine gC ?_;exact hbad _ _ (.inl (by simpa using h1)) (eE)
 refine sI ?_;refine⟨_,⟨_,rfl,.g e6⟩,?_⟩;refine sI ?_;refine(jH _ _ _ hb4' _ _).mono ?_;rintro v h' ⟨rfl,rfl⟩;refine sI ?_;intros;refine gC ?_;refine gb (fun h2=>?_) (fun h2=>?_)
 ·exact hbad _ _ (.inr (by simpa using h2)) (eE)
 have hca:gP a=0:=by simpa using h1
 have hcb:gP b=0:=by simpa using h2
 intros;refine gR 23 24 c126r3.eq_1 ?_;refine⟨_,⟨_,rfl,.g e4⟩,?_⟩;refine sI ?_;refine(EC a A c G4 hc hm hA4 _ []).mono ?_;rintro r h' ⟨G5,rfl,hg5,b9,rfl,hit⟩;refine sI ?_;intros;refine dT ?_;have fin:∀ (m:Int) (G6:Ks) (D:KF) (e:Env),lY a b ae be m→e 8=.pointer (some ⟨b8,0,none⟩)→fI o126 (fun v (h:H)=>∃ m,v=.int .i64 m∧lY a b ae be m) .ret e ⟨G6,[.blk b8 [.int .i64 m]],D⟩:=fun m G6 D e hm e8 =>
  kd (Bq (b:=b8) (v:=.int .i64 m) e8 (Bd _ _ _)) ⟨m,rfl,hm⟩
 refine sn (α:=Nat) (fun t G' L'=>L'=[.blk b8 [.int .i64 0]]∧∀ (t':Nat) (x:Ep) (k:Nat) (y:Ep),t' < t→a[a.length - 1 - t']?=some x→b[k]?=some y→x.1≠y.1)
  (fun ex t G' L'=>ex=.ret∧∃ m,L'=[.blk b8 [.int .i64 m]]∧lY a b ae be m) (eE) F182.enters (ec dS) (fun _ _ _ _ _ h=>h) hit (fun G x args h=>by obtain⟨y,_,_,_,rfl⟩:=h;rfl) ⟨rfl,fun t' x k y h=>absurd h (by omega)⟩ ?_ ?_ ?_
 ·rintro yl t i args G' L' hti hgl ⟨x,hx,i1,i2,rfl⟩ ⟨rfl,hno⟩ _;obtain⟨htl,rfl⟩:=FW hti;have hg6:Gle G4 G':=hg5.trans hgl;have e4':=em hg6 e4;have e5':=em hg6 e5;have e6':=em hg6 e6;have e7':=em hg6 e7;have ha5:=ha4.le hg6 KO;have hb5:=hb4'.le hg6 KO;have hokx:=Bi hca hx;have hx0:0≤x.1:=by simp[okE]at hokx;omega
  have hx64:I64 x.1:=i1;refine sI ?_;intros;refine gR 0 0 c126r4.eq_1 ?_;intro bb;refine gD (rS ?_);intros;refine gR 27 35 c126r5.eq_1 ?_;refine⟨_,⟨_,rfl,.g e6'⟩,?_⟩;refine sI ?_;refine⟨_,⟨_,rfl,.g e7'⟩,?_⟩;refine sI ?_;refine(rE _ x.1 be _ G' hb5 hlb _ _).mono ?_;rintro v h' ⟨⟨w,o,rfl,hw⟩,rfl⟩;have hcom:=sa hcb hx0 hw;refine sI ?_;intros;refine gR 35 38 c126r6.eq_1 ?_;intros;refine gC ?_
  refine gb (fun h3=>?_) (fun h3=>?_)
  ·have hwx:w=x.1:=by simpa using h3
   obtain⟨k,y,hy,hxy,ho⟩:∃ (k:Nat) (y:Ep),b[k]?=some y∧x.1=y.1∧o=tb b k be:=by
    rcases hcom with⟨_,h⟩ | ⟨h,_⟩
    ·exact h
    ·exact absurd hwx h
   intros;refine gR 39 47 c126r7.eq_1 ?_;refine⟨_,⟨_,rfl,.g e4'⟩,?_⟩;refine sI ?_;refine⟨_,⟨_,rfl,.g e5'⟩,?_⟩;refine sI ?_;refine(rE _ x.1 ae _ G' ha5 hla _ _).mono ?_;rintro v h' ⟨⟨w2,o2,rfl,hw2⟩,rfl⟩;obtain⟨rfl,ho2⟩:=yk hca hx hw2;refine sI ?_;have hmn:(if o < o2 then o else o2)=min o2 o:=by split <;> omega
   intros;refine gR2 47 50 c126r8.eq_1 @hmn ?_;refine ek [_] [] rfl (by simp) ⟨rfl,rfl⟩ ?_;refine sI ?_;intros;refine dT ?_;refine ea (H4 [.blk b8 [.int .i64 (min o2 o)]] (.cons _ KJ) (ec dS) ⟨rfl,_,rfl,?_⟩);refine .inr ⟨hca,hcb,.inr ⟨_,x,k,y,hx,hy,hxy,fun i' x' k' y' hi hx' hy'=>?_,?_⟩⟩
   ·have hi':=(List.getElem?_eq_some_iff.1 hx').1;refine hno (a.length - 1 - i') x' k' y' (by omega) ?_ hy';rw[show a.length - 1 - (a.length - 1 - i')=i' by omega];exact hx'
   ·rw[ho,ho2];rfl
  ·have hwx:¬ w=x.1:=by simpa using h3
   intros;refine dT ?_;refine gD (rk [.blk b8 [.int .i64 0]] (.cons _ KJ) (ec dS) ⟨rfl,fun t' x' k y ht' hx' hy=>?_⟩);by_cases htt:t'=t
   ·subst htt;rw[hx]at hx';cases hx';rcases hcom with⟨h,_⟩ | ⟨_,h⟩
    ·exact absurd h hwx
    ·exact h k y hy
   ·exact hno t' x' k y (by omega) hx' hy
 ·rintro G' L' dd hgl ⟨rfl,hno⟩ _;intros;refine gR 0 0 c126r9.eq_1 ?_;refine ek [] [] rfl (by simp) ⟨rfl,rfl⟩ ?_;refine sI ?_;intros;refine dT ?_;refine ea (fin 0 _ _ _ (.inr ⟨hca,hcb,.inl ⟨fun i x k y hx hy=>?_,rfl⟩⟩) (eE));have hi:=(List.getElem?_eq_some_iff.1 hx).1;refine hno (a.length - 1 - i) x k y (by simp;omega) ?_ hy;rw[show a.length - 1 - (a.length - 1 - i)=i by omega];exact hx
 ·rintro ex t G' L' dd _ hgl ⟨rfl,m,rfl,hmm⟩ _;rw[BD];exact fin m _ _ _ hmm (eE)
theorem Dd{l:List Ep}(h:gP l=0){i k:Nat}{x y:Ep}(hx:l[i]?=some x)(hy:l[k]?=some y)(he:x.1=y.1):i=k:=by
 rcases Nat.lt_trichotomy i k with h1 | h1 | h1
 ·have:=(kJ h h1 hx hy).1;omega
 ·exact h1
 ·have:=(kJ h h1 hy hx).1;omega
theorem qU{a b:List Ep}{ae be m m':Int}(h:lY a b ae be m)(h':lY a b ae be m'):m=m':=by
 rcases h with⟨h1,rfl⟩ | ⟨h1,h2,h3⟩ <;> rcases h' with⟨h1',rfl⟩ | ⟨h1',h2',h3'⟩
 ·rfl
 ·rcases h1 with h | h
  ·exact absurd h1' h
  ·exact absurd h2' h
 ·rcases h1' with h | h
  ·exact absurd h1 h
  ·exact absurd h2 h
 ·rcases h3 with⟨h4,rfl⟩ | ⟨i,x,k,y,hx,hy,hxy,hm,rfl⟩ <;> rcases h3' with⟨h4',rfl⟩ | ⟨i',x',k',y',hx',hy',hxy',hm',rfl⟩
  ·rfl
  ·exact absurd hxy' (h4 _ _ _ _ hx' hy')
  ·exact absurd hxy (h4' _ _ _ _ hx hy)
  ·have e:i=i':=by
    rcases Nat.lt_trichotomy i i' with h | h | h
    ·exact absurd hxy' (hm _ _ _ _ h hx' hy')
    ·exact h
    ·exact absurd hxy (hm' _ _ _ _ h hx hy)
   subst e;rw[hx]at hx';cases hx';have e:=Dd h2 hy hy' (by omega);subst e;rfl
theorem xS{a b:List Ep}{ae be m:Int}(h:lY a b ae be m)(hz:gP a≠0∨gP b≠0∨a=[]∨b=[]):m=0:=by
 rcases h with⟨h1,rfl⟩ | ⟨h1,h2,h3⟩
 ·rfl
 ·rcases h3 with⟨_,rfl⟩ | ⟨i,x,k,y,hx,hy,_,_,rfl⟩
  ·rfl
  ·rcases hz with h | h | h | h
   ·exact absurd h1 h
   ·exact absurd h2 h
   ·subst h;simp at hx
   ·subst h;simp at hy
theorem F119:Fun Tryz.prog 119 8 v119 c119 o119:=Fun.mkA Tryz.func119 Tryz.ntmps119
theorem F67:Fun Tryz.prog 67 60 v67 c67 o67:=Fun.mkA Tryz.func67 Tryz.ntmps67
theorem RR1:∀ (x:Rec) cs,RR x cs→∀ u∈cs,u.oneCell'=true:=fun x cs h u hu=>by
 rw[h.1]at hu;simp[gT]at hu;rcases hu with rfl | rfl | rfl | rfl | rfl <;> rfl
def pN(x:Batch)(L':Kv)(cs:Kt):Prop:=∃ u zc,cs=fu x u∧L'=[.row u 103 5 x.recs.length zc]∧Cells RR 5 x.recs zc∧I64 x.base∧I64 x.last∧I64 x.src∧I64 x.epoch∧I64 x.pid∧I64 x.gen∧I64 x.seq∧I64 x.ctl
theorem pN.gx{x:Batch}{G:Ks}{L' L:Kv}{D:KF}{cs:Kt}(h:pN x L' cs):fc ⟨G,L'++L,D⟩ fun h'=>∃ G',h'=⟨G',L,D⟩∧Gle G G'∧BE G' x cs:=by
 obtain⟨u,zc,rfl,rfl,hc,hi⟩:=h;refine(kA (by decide) hc).mono ?_;rintro h' ⟨G',rfl,hg,A,c,rfl,h1,h2,h3⟩;exact⟨G',rfl,hg,A,c,rfl,⟨h1,h2,h3⟩,hi⟩
theorem vP(l:List Rec)(v:Value)(G:Ks)(hl:SlV G RR 5 v l)(hb:l.length≤1000):FnO Tryz.prog 119 #[v] G [] (fun _ L' r=>ya RR 103 5 l L' r):=by
 refine F119.fnO (by simp) dS (dY ?_);have hl0:=hl;obtain⟨A,c,rfl,hc,hm,hA⟩:=hl;unfold c119;intros;refine gR 0 0 c119r0.eq_1 ?_;intros;refine gR 3 4 c119r1.eq_1 ?_;intros;refine gC ?_;refine gb (fun ht=>?_) (fun ht=>?_)
 ·intros;refine gR 0 0 c119r2.eq_1 ?_;intros;refine dT ?_;have hA0:l=[]:=by
   match l,hA with
   | [],_=>rfl
   | x :: xs,hA=>obtain⟨a,_,ha,_⟩:=hA 0 x rfl;subst ha;cases ht
  subst hA0;refine dU (eA none 103 5) ?_;refine ea (ee _ rfl KJ (dW dS) ?_);exact⟨[],.nil,rfl⟩
 ·intros;refine gN ?_;intros;refine gR 5 8 c119r3.eq_1 ?_;intro b hb';refine j5 (.inr ⟨⟨_,rfl⟩,rfl,rfl,rfl,rfl⟩) hl0 rfl RR1 ⟨by omega,by unfold maxLen;omega⟩ fun ys A c hc=>?_
  simp only[Nat.zero_add];refine sI ?_;intros;refine dT ?_;refine ea (ee _ rfl KJ (dW dS) ?_);exact⟨ys,hc,rfl⟩
theorem CV{α:Type}{P:Program}{f:FuncId}{args:Array Value}{G:Ks}{E:α→Kt→Prop}{et sz:Nat}{zs:List α}(hf:FnO P f args G [] (fun _ L' r=>ya E et sz zs L' r)):
  FnO P f args G [] (fun _ L' r=>∃ A c ys,r=.slice A zs.length c∧(zs.length≤c∧c≤maxLen)∧Cells E sz zs ys∧L'=[.row r et sz zs.length ys]):=fun L D =>
 (hf L D).gx fun v h' ⟨G',L',he,hg,ys,hc,hL⟩=>by
  subst he hL;exact(gL (.head _)).mono fun h' ⟨h1,A,c,h2,h3,h4⟩=>⟨G',_,h1,hg,A,c,ys,h2,⟨h3,h4⟩,hc,rfl⟩
def yx(by_:Int)(r:Rec):Rec:=⟨r.off+by_,r.key,r.val,r.dead,r.stamp⟩
def vf(x:Batch)(base:Int):Batch:=⟨base,x.last+(base - x.base),x.src,x.epoch,x.pid,x.gen,x.seq,x.txn,x.ctl,x.recs.map (yx (base - x.base))⟩
def fU(x:Batch)(base:Int):Batch × Int:=if rng 1099511627776 base=true then(if fM x=0 then(if fM (vf x base)=0 then(vf x base,0)else(jA,fM (vf x base)))else(jA,fM x))else(jA,1)
def HQ(p:Batch × Int)(L':Kv)(r:Value):Prop:=∃ cs,r=.tuple #[.agg cs.toArray,.int .i64 p.2]∧pN p.1 L' cs
theorem pN.none:pN jA [.row (.slice none 0 0) 103 5 0 []] [.int .i64 0,.int .i64 0,.int .i64 0,.int .i64 0,.int .i64 0,.int .i64 0,.int .i64 0,.bool false,.int .i64 0,.slice none 0 0]:=⟨_,[],rfl,rfl,.nil,by decide,by decide,by decide,by decide,by decide,by decide,by decide,by decide⟩
theorem AQ{l:List Rec}{f:Rec→Rec}{k:Nat}{r:Rec}(hr:l[k]?=some r):((l.map f).take k++l.drop k).set k (f r)=(l.map f).take (k+1)++l.drop (k+1):=by
 have h:=List.getElem?_eq_some_iff.1 hr;have hk:k < (l.map f).length:=by simpa using h.1
 have hl:((l.map f).take k).length=k:=by have:=h.1;simp;omega
 rw[List.set_append_right _ _ (by omega),hl,Nat.sub_self,List.drop_eq_getElem_cons h.1,List.set_cons_zero,List.take_succ_eq_append_getElem hk,List.append_assoc];congr 2;simp[h.2]
theorem Ci{l:List Rec}{f:Rec→Rec}{k:Nat}{r:Rec}(hr:l[k]?=some r):((l.map f).take k++l.drop k)[k]?=some r:=by
 have h:=List.getElem?_eq_some_iff.1 hr;have hl:((l.map f).take k).length=k:=by have:=h.1;simp;omega
 rw[List.getElem?_append_right (by omega),hl,Nat.sub_self,List.getElem?_drop,Nat.add_zero,hr]
theorem Do{by_:Int}{r:Rec}(h:RR r (gT r))(hi:I64 (r.off+by_)):RR (yx by_ r) (gT (yx by_ r)):=⟨rfl,⟨hi,h.2.1.2⟩,h.2.2⟩
set_option maxHeartbeats 1000000 in
theorem Am(x:Batch)(base:Int)(cs:Kt)(G:Ks)(hx:BE G x cs)(hbi:I64 base):FnO Tryz.prog 67 #[.agg cs.toArray,.int .i64 base] G [] (fun _ L' r=>HQ (fU x base) L' r):=by
 have hck:=lX x cs G hx;have hx0:=hx;obtain⟨A,c,rfl,⟨hc,hm,hA⟩,i1,i2,i3,i4,i5,i6,i7,i8⟩:=hx;refine F67.fnO (by simp) dS (dY ?_);unfold c67;unfold fu at hck ⊢;have hrow:=fun v=>mw 1099511627776 base [] v 1 _ (.one (cs:=[.int .i64 base]) ⟨rfl,hbi⟩ rfl) G
 rw[show([base]:KG).all (rng 1099511627776)=rng 1099511627776 base by simp]at hrow;intros;refine gR 0 0 c67r0.eq_1 ?_;intros;refine gR 10 13 c67r1.eq_1 ?_;intro b1 hb1;refine fK (hrow _ _ _) ?_;intros;refine gC ?_;refine gb (fun k1=>?_) (fun k1=>?_)
 ·have k1:¬ rng 1099511627776 base=true:=by simpa using k1
  intros;refine gR 14 15 c67r2.eq_1 ?_;intros;refine dT ?_;refine dU (eA none 103 5) ?_;refine ea (ee _ rfl (.cons_cons _ KL) (dW dS) ?_);rw[fU,if_neg k1];exact⟨[.int .i64 0,.int .i64 0,.int .i64 0,.int .i64 0,.int .i64 0,.int .i64 0,.int .i64 0,.bool false,.int .i64 0,.slice none 0 0],rfl,pN.none⟩
 have k1:rng 1099511627776 base=true:=by simpa using k1
 have k1':0≤base∧base≤1099511627776:=by simpa [rng]using k1
 intros;refine gN ?_;intros;refine gR 15 17 c67r3.eq_1 ?_;refine fK (hck _ _) ?_;intros;refine gR 17 18 c67r4.eq_1 ?_;intros;refine gC ?_;refine gb (fun k2=>?_) (fun k2=>?_)
 ·have k2:=KM k2;intros;refine gR 19 21 c67r5.eq_1 ?_;intros;refine dT ?_;refine dU (eA none 103 5) ?_;refine ea (ee _ rfl (.cons_cons _ KL) (dW dS) ?_);rw[fU,if_pos k1,if_neg k2];exact⟨[.int .i64 0,.int .i64 0,.int .i64 0,.int .i64 0,.int .i64 0,.int .i64 0,.int .i64 0,.bool false,.int .i64 0,.slice none 0 0],rfl,pN.none⟩
 have k2:fM x=0:=by simpa using k2
 have hmv:fU x base=if fM (vf x base)=0 then(vf x base,0)else(jA,fM (vf x base)):=by rw[fU,if_pos k1,if_pos k2]
 obtain⟨hf,-⟩:=ir k2;obtain⟨hrc,hrl⟩:=kx hf;obtain⟨⟨f1,f2,-⟩,-,⟨f7,f8,-,-⟩,-⟩:=hf;simp[rng]at f1 f2;have w1:IntKind.i64.wrap (base - x.base)=base - x.base:=by rw[ei] <;> omega
 have w2:IntKind.i64.wrap (x.last+(base - x.base))=x.last+(base - x.base):=by rw[ei] <;> omega
 have hlast:I64 (x.last+(base - x.base)):=by unfold I64;omega
 have hby:-1099511627776≤base - x.base∧base - x.base≤1099511627776:=by omega
 have hmb:vf x base=⟨base,x.last+(base - x.base),x.src,x.epoch,x.pid,x.gen,x.seq,x.txn,x.ctl,x.recs.map (yx (base - x.base))⟩:=rfl;intros;refine gN ?_;intros;refine gR2 21 25 c67r6.eq_1 @w1 ?_;intros;try refine ed ?_
 refine dU (dX (L':=[.reg 4 [.int .i64 0,.int .i64 0,.int .i64 0,.int .i64 0,.int .i64 0,.int .i64 0,.int .i64 0,.bool false,.int .i64 0,.slice none 0 0],.reg 2 [.int .i64 x.base,.int .i64 x.last,.int .i64 x.src,.int .i64 x.epoch,.int .i64 x.pid,.int .i64 x.gen,.int .i64 x.seq,.bool x.txn,.int .i64 x.ctl,.slice A x.recs.length c]]) (.cons _ KJ)) ?_
 intros;refine dT ?_;refine qe _ KJ (by decide) ?_;refine sJ2 c67r7.eq_1 @w2 ?_;refine(CV (vP x.recs _ G ⟨A,c,rfl,hc,hm,hA⟩ (by omega)) _ []).mono ?_;rintro u h' ⟨G1,L',rfl,hg1,A',c',zc,rfl,⟨hc1',hc2'⟩,hzc,rfl⟩;refine⟨ef hg1 (.cons _ KJ),?_⟩;refine sI ?_;refine gG ?_;refine sI ?_;refine gG ?_;refine sI ?_;intros;have hmvl:(x.recs.map (yx (base - x.base))).length=x.recs.length:=by simp
 intros;try refine ed ?_
 refine eL (fun e h=>∃ (zc':Kt),Cells RR 5 (x.recs.map (yx (base - x.base))) zc'∧h=⟨G1,[.row (.slice A' x.recs.length c') 103 5 x.recs.length zc',.reg 4 [.int .i64 0,.int .i64 0,.int .i64 0,.int .i64 0,.int .i64 0,.int .i64 0,.int .i64 0,.bool false,.int .i64 0,.slice none 0 0],.reg 2 [.int .i64 base,.int .i64 (x.last+(base - x.base)),.int .i64 x.src,.int .i64 x.epoch,.int .i64 x.pid,.int .i64 x.gen,.int .i64 x.seq,.bool x.txn,.int .i64 x.ctl,.slice A' x.recs.length c']],[]⟩) ?_ ?_
 ·intros;refine gR 37 38 c67r8.eq_1 ?_;intros;refine dT ?_
  refine ej (fun e h=>∃ (k:Nat) (zc':Kt),(k≤x.recs.length∧Cells RR 5 ((x.recs.map (yx (base - x.base))).take k++x.recs.drop k) zc')∧e 39=.int .i64 k∧e 38=.int .i64 x.recs.length∧e 7=.int .i64 (base - x.base)∧h=⟨G1,[.row (.slice A' x.recs.length c') 103 5 x.recs.length zc',.reg 4 [.int .i64 0,.int .i64 0,.int .i64 0,.int .i64 0,.int .i64 0,.int .i64 0,.int .i64 0,.bool false,.int .i64 0,.slice none 0 0],.reg 2 [.int .i64 base,.int .i64 (x.last+(base - x.base)),.int .i64 x.src,.int .i64 x.epoch,.int .i64 x.pid,.int .i64 x.gen,.int .i64 x.seq,.bool x.txn,.int .i64 x.ctl,.slice A' x.recs.length c']],[]⟩) (fun e h=>x.recs.length - iv (e 39)) ?_ ?_
  ·exact⟨0,zc,⟨Nat.zero_le _,by simpa using hzc⟩,eE,eE,eE,rfl⟩
  ·rintro e h ⟨k,zc',⟨hk,hcs⟩,e39,e38,e7,rfl⟩;refine dV [7,38,39] ?_;refine sJ3 @e7 @e38 @e39 ?_;intros;refine gR 0 0 c67r9.eq_1 ?_;intros;refine gC ?_;refine gb (fun ht=>?_) (fun ht=>?_)
   ·have ht:k < x.recs.length:=by have:=KM ht;omega
    have hw:=eW k c' (by omega) hc2';obtain⟨r,hr⟩:∃ r,x.recs[k]?=some r:=⟨x.recs[k],getElem?_eq_getElem (by omega)⟩;have hget:=Ci (f:=yx (base - x.base)) hr;have hset:=AQ (f:=yx (base - x.base)) hr;have hch:=fQ (hrc r (mem_of_getElem? hr));have hoff:=iw.1 hch.1.1;have w3:IntKind.i64.wrap (r.off+(base - x.base))=r.off+(base - x.base):=by rw[ei] <;> omega
    obtain⟨cs0,hE0,hl0,hcell⟩:=hcs.get hget;have hv0:=hcell 0 (.int .i64 r.off) (by rw[hE0.1];rfl);rw[Nat.add_zero]at hv0;have hnew:=hcs.setF (o:=0) (us:=[.int .i64 (r.off+(base - x.base))]) (x':=yx (base - x.base) r) hget (by simp) (fun cs hE hl=>by
     have h1:=hE.1
     subst h1
     exact Do ⟨rfl,hE.2⟩ (by unfold I64;omega))
    rw[hset,Nat.add_zero]at hnew;intros;refine gN ?_;intros;refine gR 41 42 c67r10.eq_1 ?_;intros;refine dT ?_;refine eI (iE (v:=.slice A' x.recs.length c') (.head _) (by omega)) ?_;rintro h' ⟨rfl,g,c0,hA,-,-⟩;cases hA;intros;refine gR 43 52 c67r11.eq_1 ?_;refine⟨by omega,_,rfl,?_⟩;rw[eV,eV,Nat.zero_add];refine⟨_,ff (.head _) (by simpa using hv0),?_⟩;refine sJ2 @w3 @Nat.zero_add ?_
    refine⟨by omega,_,rfl,?_⟩;rw[eV,eV,Nat.zero_add];refine fG [] [_,_] rfl (by have:=hcs.len;simp at this ⊢;omega) ⟨rfl,rfl⟩ ?_;refine sI ?_;intros;refine gR 52 53 c67r12.eq_1 ?_;intros;refine dT ?_;refine eF ⟨⟨k+1,_,⟨by omega,hnew⟩,(eJ @hw),eE,eE,rfl⟩,?_⟩;refine sJ @hw ?_;omega
   ·have ht:k=x.recs.length:=by have:=KN ht;omega
    subst ht;rw[List.take_of_length_le (by omega),List.drop_length,append_nil]at hcs;refine eg ?_;refine sI ?_;exact eF ⟨zc',hcs,rfl⟩
 rintro e h ⟨zc',hcs,rfl⟩
 have hck':∀ L D,eS Tryz.prog 118 #[.agg #[.int .i64 base,.int .i64 (x.last+(base - x.base)),.int .i64 x.src,.int .i64 x.epoch,.int .i64 x.pid,.int .i64 x.gen,.int .i64 x.seq,.bool x.txn,.int .i64 x.ctl,.slice A' x.recs.length c']] ⟨G1,.row (.slice A' x.recs.length c') 103 5 x.recs.length zc' :: L,D⟩ fun r h'=>r=.int .i64 (fM (vf x base))∧h'=⟨G1,.row (.slice A' x.recs.length c') 103 5 x.recs.length zc' :: L,D⟩:=fun L D =>
  FX (E:=RR) (xs:=x.recs.map (yx (base - x.base))) (R:=fun r=>r=.int .i64 (fM (vf x base))) F118.enters (by decide) hcs fun G' hg hx=>by
   obtain⟨A2,c2,hv,h1,h2,h3⟩:=hx;rw[hmvl]at hv;injection hv with e1 e2 e3
   subst e1 e3;exact lX (vf x base) [.int .i64 base,.int .i64 (x.last+(base - x.base)),.int .i64 x.src,.int .i64 x.epoch,.int .i64 x.pid,.int .i64 x.gen,.int .i64 x.seq,.bool x.txn,.int .i64 x.ctl,.slice A' x.recs.length c'] G' ⟨A',c',by simp[fu,hmb],⟨h1,h2,h3⟩,hbi,hlast,i3,i4,i5,i6,i7,i8⟩ _ _
 intros;intros;refine gR 53 55 c67r13.eq_1 ?_;refine fK (hck' _ _) ?_;intros;refine gR 55 56 c67r14.eq_1 ?_;intros;refine gC ?_;refine gb (fun k3=>?_) (fun k3=>?_)
 ·have k3:=KM k3;intros;refine gR 57 59 c67r15.eq_1 ?_;intros;refine dT ?_;refine dU (eA none 103 5) ?_;refine ea (ee _ rfl (.cons_cons _ KL) (dW dS) ?_);rw[hmv,if_neg k3];exact⟨[.int .i64 0,.int .i64 0,.int .i64 0,.int .i64 0,.int .i64 0,.int .i64 0,.int .i64 0,.bool false,.int .i64 0,.slice none 0 0],rfl,pN.none⟩
 have k3:fM (vf x base)=0:=by simpa using k3
 intros;refine gN ?_;intros;refine gR 59 60 c67r16.eq_1 ?_;intros;refine dT ?_;refine ea (ee _ rfl (.cons_cons _ KL) (dW dS) ?_);rw[hmv,if_pos k3];exact⟨_,rfl,.slice A' x.recs.length c',zc',by simp[fu,hmb],by simp[hmb],hcs,hbi,hlast,i3,i4,i5,i6,i7,i8⟩
end Go.Proofs.YtpmofpekcbghnaaGreat
namespace Go.Proofs.YtpmofpekcbghnaaGreat
open Go Go.Kx
open List (getElem?_eq_getElem mem_of_getElem? length_append append_nil take_length)
structure Rp where
 id:Int
 up:Bool
 log:Lg
 eps:List Ep
 high:Int
structure Pt where
 epoch:Int
 leader:Int
 least:Int
 isr:KG
 reps:List Rp
def jZ:Pt:=⟨0,0,0,[],[]⟩
def idI(n:Int):Bool:=decide (0≤n) && decide (n≤1048576)
def gE(l:KG):Prop:=l≠[]∧(∀ n∈l,idI n=true)∧l.Pairwise (· < ·)
def n7(r:Rp):Lg:=if r.up=true then r.log else(iQ r.log).1
def okR(r:Rp):Prop:=(idI r.id=true∧gP r.eps=0∧0≤r.high∧r.high≤1099511627777)∧fS (n7 r)=0∧(r.up=true→r.high≤fg r.log)
def gj(l:List Rp):KG:=l.map (·.id)
def okP(p:Pt):Prop:=(idI p.epoch=true∧gE (gj p.reps)∧p.reps.length≤5∧(1≤p.least∧p.least≤(p.reps.length:Int))∧∀ r∈p.reps,okR r) ∧
 (gE p.isr∧∀ n∈p.isr,n∈gj p.reps)∧(p.leader=-1∨(∃ r∈p.reps,r.id=p.leader∧r.up=true)∧p.leader∈p.isr)
open Classical in
noncomputable def fA(p:Pt):Int:=if okP p then 0 else 1
theorem jt{p:Pt}(h:fA p=0):okP p:=by
 unfold fA at h;split at h
 ·assumption
 ·cases h
def atR:List Rp→Int→KI
 | [],_=>none
 | r :: l,n=>if r.id=n then some 0 else(atR l n).map (· + 1)
theorem ij:∀ {l:List Rp} {n:Int} {k:Nat},atR l n=some k→∃ r,l[k]?=some r∧r.id=n
 | [],_,_,h=>by cases h
 | r :: l,n,k,h=>by
  rw[atR]at h;split at h
  ·rename_i h1;cases h;exact⟨r,rfl,h1⟩
  ·obtain⟨j,hj,rfl⟩:=Option.map_eq_some_iff.1 h;exact ij (l:=l) hj
theorem tJ:∀ {l:List Rp} {n:Int},atR l n=none→∀ r∈l,r.id≠n
 | [],_,_,r,hr=>by cases hr
 | r :: l,n,h,x,hx=>by
  rw[atR]at h;split at h
  ·cases h
  ·rename_i h1;have h2:atR l n=none:=by simpa using h
   rcases List.mem_cons.1 hx with rfl | hx
   ·exact h1
   ·exact tJ h2 x hx
theorem lb{l:List Rp}{n:Int}(h:n∈gj l):∃ k r,atR l n=some k∧l[k]?=some r∧r.id=n:=by
 cases hk:atR l n with
 | some k =>
  obtain⟨r,h1,h2⟩:=ij hk;exact⟨k,r,rfl,h1,h2⟩
 | none =>
  obtain⟨r,hr,rfl⟩:=List.mem_map.1 h;exact absurd rfl (tJ hk r hr)
theorem lK{l:List Rp}(hs:(gj l).Pairwise (· < ·)){k:Nat}{r:Rp}(h:l[k]?=some r):atR l r.id=some k:=by
 obtain⟨j,x,h1,h2,h3⟩:=lb (l:=l) (n:=r.id) (List.mem_map.2 ⟨r,mem_of_getElem? h,rfl⟩);rw[h1];congr 1;have e1:(gj l)[k]?=some r.id:=by rw[gj,List.getElem?_map,h];rfl
 have e2:(gj l)[j]?=some r.id:=by rw[gj,List.getElem?_map,h2,← h3];rfl
 obtain⟨g1,e1⟩:=List.getElem?_eq_some_iff.1 e1;obtain⟨g2,e2⟩:=List.getElem?_eq_some_iff.1 e2;rw[List.pairwise_iff_getElem]at hs;rcases Nat.lt_trichotomy j k with h4 | h4 | h4
 ·have:=hs j k g2 g1 h4;omega
 ·exact h4
 ·have:=hs k j g1 g2 h4;omega
open Classical in
noncomputable def mN(a b:List Ep)(ae be:Int):Int:=if h:∃ m,lY a b ae be m then Classical.choose h else 0
theorem pf{a b:List Ep}{ae be m:Int}(h:lY a b ae be m):mN a b ae be=m:=by
 have h1:∃ m,lY a b ae be m:=⟨m,h⟩;rw[mN,dif_pos h1];exact qU (Classical.choose_spec h1) h
noncomputable def kh(x r:Rp):Int:=mN x.eps r.eps (fg x.log) (fg r.log)
noncomputable def my(l:List Rp)(k:Nat)(r:Rp)(m n:Int):Int :=
 match atR l n with
 | some i=>if i=k then m else min m (match l[i]? with | some x=>kh x r | none=>m)
 | none=>m
noncomputable def fT(l:List Rp)(k:Nat)(r:Rp)(m:Int)(is:KG):Int:=is.foldl (my l k r) m
noncomputable def eN(p:Pt):Pt :=
 if p.leader < 0 then p else match atR p.reps p.leader with
 | none=>p
 | some k=>match p.reps[k]? with
  | none=>p
  | some r=>{ p with reps:=p.reps.set k { r with high:=max r.high (fT p.reps k r (fg r.log) p.isr) } }
noncomputable def JH(p:Pt)(f:Pt→Pt × Int):Pt × Int:=if fA p=0 then(if (f p).2=0 then((f p).1,0)else(jZ,(f p).2))else(jZ,fA p)
noncomputable def ofP(p:Pt)(n:Int)(f:Pt→Nat→Rp→Pt × Int):Pt × Int:=JH p fun p=>match atR p.reps n with
 | none=>(p,1)
 | some k=>match p.reps[k]? with
  | none=>(p,1)
  | some r=>f p k r
def hO(p:Pt)(k:Nat)(r:Rp):Pt:={ p with reps:=p.reps.set k r }
noncomputable def nM(n:Int)(p:Pt)(k:Nat)(r:Rp):Pt × Int :=
 if p.leader < 0 then(p,180)else if n=p.leader∨n∉p.isr then(p,181)else(eN { p with isr:=p.isr.filter fun m=>decide (m≠n) },0)
def pV(s:Sg)(n:Int):Sg:=⟨s.base,s.bytes.take (s.bytes.length - (min n s.bytes.length).toNat)⟩
def m1(l:Lg)(n:Int):Lg:=⟨l.limit,l.start,l.segs.set (l.segs.length - 1) (pV (yS l (l.segs.length - 1)) n)⟩
noncomputable def i9(n torn:Int)(p:Pt)(k:Nat)(r:Rp):Pt × Int :=
 if torn < 0 then(p,1)else if r.up=false then(p,180)else
  (eN ⟨p.epoch,if p.leader=n then -1 else p.leader,p.least,if 1 < p.isr.length then p.isr.filter fun m=>decide (m≠n)else p.isr,p.reps.set k { r with up:=false,log:=m1 r.log torn }⟩,0)
noncomputable def uY(r:Rp):Rp:=⟨r.id,true,(iQ r.log).1,m6 r.eps (fg (iQ r.log).1),min r.high (fg (iQ r.log).1)⟩
noncomputable def li(p:Pt)(k:Nat)(r:Rp):Pt × Int:=if r.up=true then(p,150)else(hO p k (uY r),0)
noncomputable def hY(n:Int)(p:Pt)(k:Nat)(r:Rp):Pt × Int :=
 if r.up=false then(p,180)else if n∉p.isr then(p,181)else if p.epoch=1048576 then(p,2)else(eN { p with epoch:=p.epoch+1,leader:=n },0)
noncomputable def lG(b:Batch)(p:Pt):(Pt × Int) × Int :=
 if p.leader < 0 then((p,180),0)else if (p.isr.length:Int) < p.least then((p,181),0)else
  match atR p.reps p.leader with
  | none=>((p,0),0)
  | some k=>match p.reps[k]? with
   | none=>((p,0),0)
   | some r =>
    if (fU b (fg r.log)).2≠0 then((p,(fU b (fg r.log)).2),0)else
     let x:Batch:={ (fU b (fg r.log)).1 with epoch:=p.epoch }
     if (j6 r.log x).2≠0 then((p,(j6 r.log x).2),x.base)else
      if (mY r.eps p.epoch x.base).2≠0 then((p,(mY r.eps p.epoch x.base).2),x.base)else
       ((eN (hO p k { r with log:=(j6 r.log x).1,eps:=(mY r.eps p.epoch x.base).1 }),0),x.base)
noncomputable def EF(p:Pt)(b:Batch):(Pt × Int) × Int :=
 let q:=JH p fun p=>(lG b p).1
 if q.2=0 then(q,(lG b p).2)else((jZ,q.2),0)
def mC:Lg→KE→Lg × Bool
 | l,[]=>(l,true)
 | l,b :: bs=>if (j6 l b).2=0 then mC (j6 l b).1 bs else((j6 l b).1,false)
def ia(l lead:Lg)(to:Int):Lg × Bool :=
 let x:=sR l to
 if x.2≠0∨(nj lead).length < (nj x.1).length∨nj x.1≠(nj lead).take (nj x.1).length then(x.1,false)else
  mC x.1 ((nj lead).drop (nj x.1).length)
noncomputable def eT(r lead:Rp):Rp :=
 let m:=kh r lead
 let c:=ia r.log lead.log (min m (fg r.log))
 { r with log:=if r.log.start=lead.log.start∧r.log.start≤m∧c.2=true then c.1 else lead.log,eps:=lead.eps }
def lC:KG→Int→KG
 | [],n=>[n]
 | m :: l,n=>if m < n then m :: lC l n else if m=n then m :: l else n :: m :: l
noncomputable def nN(n:Int)(p:Pt)(k:Nat)(r:Rp):Pt × Int :=
 if p.leader < 0∨r.up=false then(p,180)else if n=p.leader then(p,0)else
  match atR p.reps p.leader with
  | none=>(p,0)
  | some j=>match p.reps[j]? with
   | none=>(p,0)
   | some lead =>
    let r1:=eT r lead
    let e:=fg r1.log
    let p1:Pt:={ p with isr:=if lead.high≤e then lC p.isr n else p.isr,reps:=p.reps.set k { r1 with high:=min r.high e } }
    let p2:=eN p1
    let lead2:=(p2.reps[j]?.getD lead)
    (hO p2 k { r1 with high:=min (max (min r.high e) lead2.high) e },0)
noncomputable def nR(p:Pt):Int :=
 if fA p≠0 then 0 else if 0≤p.leader then(match atR p.reps p.leader with | some k=>(p.reps[k]?.map (·.high)).getD 0 | none=>0)
 else p.isr.foldl (fun m n=>max m (match atR p.reps n with | some k=>(p.reps[k]?.map (·.high)).getD 0 | none=>0)) 0
noncomputable def ji(p:Pt):Lg × Int :=
 if fA p≠0 then(hH,fA p)else if p.leader < 0 then(hH,180)else(match atR p.reps p.leader with | some k=>(p.reps[k]?.map (·.log)).getD hH | none=>hH,0)
open Classical in
noncomputable def BL(l:KG)(limit least:Int):Pt × Int :=
 if (x8 limit 0).2=0∧gE l∧l.length≤5∧1≤least∧least≤(l.length:Int)then(⟨1,l.headD 0,least,l,l.map fun n=>⟨n,true,(x8 limit 0).1,[],0⟩⟩,0)else(jZ,1)
end Go.Proofs.YtpmofpekcbghnaaGreat
namespace Go.Proofs.YtpmofpekcbghnaaGreat
open Go Go.Kx
open List (getElem?_eq_getElem mem_of_getElem? length_append append_nil take_length)
theorem F59:Fun Tryz.prog 59 19 v59 c59 o59:=Fun.mkA Tryz.func59 Tryz.ntmps59
theorem F58:Fun Tryz.prog 58 9 v58 c58 o58:=Fun.mkA Tryz.func58 Tryz.ntmps58
theorem F109:Fun Tryz.prog 109 19 v109 c109 o109:=Fun.mkA Tryz.func109 Tryz.ntmps109
theorem F56:Fun Tryz.prog 56 9 v56 c56 o56:=Fun.mkA Tryz.func56 Tryz.ntmps56
theorem F107:Fun Tryz.prog 107 19 v107 c107 o107:=Fun.mkA Tryz.func107 Tryz.ntmps107
theorem F54:Fun Tryz.prog 54 9 v54 c54 o54:=Fun.mkA Tryz.func54 Tryz.ntmps54
theorem F105:Fun Tryz.prog 105 49 v105 c105 o105:=Fun.mkA Tryz.func105 Tryz.ntmps105
theorem F106:Fun Tryz.prog 106 9 v106 c106 o106:=Fun.mkA Tryz.func106 Tryz.ntmps106
def fk(r:Rp)(A:Ky)(c:Nat)(B:Ky)(d:Nat):Kt:=[.int .i64 r.id,.bool r.up,.int .i64 r.log.limit,.int .i64 r.log.start,.slice A r.log.segs.length c,.slice B r.eps.length d,.int .i64 r.high]
def RE(G:Ks)(r:Rp)(cs:Kt):Prop:=∃ A c B d,cs=fk r A c B d∧SlV G (SE G) 2 (.slice A r.log.segs.length c) r.log.segs∧SEp G (.slice B r.eps.length d) r.eps∧(I64 r.log.limit∧I64 r.log.start)∧I64 r.id∧I64 r.high
theorem RE.le{G G':Ks}(hg:Gle G G'){r:Rp}{cs:Kt}(h:RE G r cs):RE G' r cs:=by
 obtain⟨A,c,B,d,h1,h2,h3,h4⟩:=h;exact⟨A,c,B,d,h1,SlSE.le hg h2,h3.le hg KO,h4⟩
theorem SlR.le{G G':Ks}(hg:Gle G G'){v:Value}{l:List Rp}(h:SlV G (RE G) 7 v l):SlV G' (RE G') 7 v l:=h.le hg fun _ _ h=>RE.le hg h
theorem IE1:∀ (x:Int) cs,IE x cs→∀ u∈cs,u.oneCell'=true:=fun x cs h u hu=>by
 rw[h.1]at hu;simp at hu;rw[hu];rfl
theorem RE1{G:Ks}:∀ (x:Rp) cs,RE G x cs→∀ u∈cs,u.oneCell'=true:=fun x cs h u hu=>by
 obtain⟨A,c,B,d,rfl,-⟩:=h;simp[fk]at hu;rcases hu with rfl | rfl | rfl | rfl | rfl | rfl | rfl <;> rfl
theorem jG{α:Type}(p:α→Bool):∀ (l:List α) (i:Nat),decide (0≤gl p l i)=l.any p
 | [],i=>rfl
 | x :: l,i=>by
  rw[gl,List.any_cons];by_cases h:p x=true
  ·rw[if_pos h,h,Bool.true_or];simp
  ·rw[if_neg h,jG p l,show p x=false by simpa using h,Bool.false_or]
theorem lu{α:Type}(p:α→Bool):∀ (l:List α) (i:Nat),(gl p l i=-1∧∀ x∈l,p x=false)∨∃ k x,gl p l i=((i+k:Nat):Int)∧l[k]?=some x∧p x=true∧∀ y∈l.take k,p y=false
 | [],i=>.inl ⟨rfl,fun x h=>by cases h⟩
 | x :: l,i=>by
  rw[gl];by_cases h:p x=true
  ·rw[if_pos h];exact .inr ⟨0,x,rfl,rfl,h,fun y hy=>by simp at hy⟩
  ·rw[if_neg h];have h':p x=false:=by simpa using h
   rcases lu p l (i+1)with⟨h1,h2⟩ | ⟨k,y,h1,h2,h3,h4⟩
   ·exact .inl ⟨h1,fun z hz=>by rcases List.mem_cons.1 hz with rfl | hz;exact h';exact h2 z hz⟩
   ·refine .inr ⟨k+1,y,by rw[h1];congr 1;omega,h2,h3,fun z hz=>?_⟩;rw[List.take_succ_cons]at hz;rcases List.mem_cons.1 hz with rfl | hz
    ·exact h'
    ·exact h4 z hz
theorem Bo(l:KG)(n:Int):(l.any fun y=>decide (n=y))=decide (n∈l):=by
 rw[Bool.eq_iff_iff];simp
theorem rG(l:KG)(n:Int)(v:Value)(G:Ks)(hl:SlV G IE 1 v l):FnS Tryz.prog 59 #[v,.int .i64 n] G (.int .i64 (gl (fun y=>decide (n=y)) l 0)):=by
 obtain⟨A,c,rfl,hc,hmx,hA⟩:=hl;refine F59.fnS (by simp) (dY ?_);unfold c59;intros;refine gR 0 0 c59r0.eq_1 ?_;intros;refine gR 6 7 c59r1.eq_1 ?_;intros;refine dT ?_
 refine ej (fun e h=>∃ k:Nat,(k≤l.length∧gl (fun y=>decide (n=y)) l 0=gl (fun y=>decide (n=y)) (l.drop k) k)∧e 8=.int .i64 k∧e 7=.int .i64 l.length∧e 0=.slice A l.length c∧e 1=.int .i64 n∧h=⟨G,[],[]⟩) (fun e h=>l.length - iv (e 8)) ?_ ?_
 ·exact⟨0,⟨Nat.zero_le _,rfl⟩,eE,eE,eE,eE,rfl⟩
 rintro e h ⟨k,⟨hk,hfi⟩,e8,e7,e0,e1,rfl⟩;refine dV [0,1,7,8] ?_;refine sJ4 @e0 @e1 @e7 @e8 ?_;intros;refine gR 0 0 c59r2.eq_1 ?_;intros;refine gC ?_;refine gb (fun ht=>?_) (fun ht=>?_)
 ·have ht:k < l.length:=by have:=KM ht;omega
  have hw:=eW k c (by omega) hmx;obtain⟨s,hs⟩:∃ s,l[k]?=some s:=⟨l[k],getElem?_eq_getElem (by omega)⟩;rw[nL hs]at hfi;intros;refine gN ?_;intros;refine gR 10 11 c59r3.eq_1 ?_;intros;refine gR 11 16 c59r4.eq_1 ?_;refine hA.x_l1 hs rfl rfl ?_;rintro a1 ha1 u1 ⟨hu,-⟩;cases hu;refine sI ?_;intros;refine gC ?_;refine gb (fun k1=>?_) (fun k1=>?_)
  ·rw[if_pos k1]at hfi;intros;refine gR 17 18 c59r5.eq_1 ?_;intros;refine rW ?_;rw[hfi]
  ·rw[if_neg (by rw[k1];simp)]at hfi;intros;refine gN ?_;intros;refine gR2 18 19 c59r6.eq_1 @hw ?_;intros;refine dT ?_;refine eF ⟨⟨k+1,⟨by omega,hfi⟩,eE,eE,eE,eE,rfl⟩,?_⟩;refine sI ?_;omega
 ·have ht:k=l.length:=by have:=KN ht;omega
  subst ht;rw[List.drop_length,gl]at hfi;refine eg ?_;refine sI ?_;intros;refine gR 0 0 c59r7.eq_1 ?_;intros;refine rW ?_;rw[hfi]
theorem kz(l:KG)(n:Int)(v:Value)(G:Ks)(hl:SlV G IE 1 v l):FnS Tryz.prog 58 #[v,.int .i64 n] G (.bool (decide (n∈l))):=by
 have hd:decide (gl (fun y=>decide (n=y)) l 0≥0)=decide (n∈l):=by rw[← Bo,← jG _ l 0]
 refine F58.fnS (by simp) (dY ?_);unfold c58;intros;refine gR 0 0 c58r0.eq_1 ?_;intros;refine gR 5 9 c58r1.eq_1 ?_;refine fK (rG l n _ _ hl _ _) ?_;intros;refine rW ?_;rw[← Bo,← jG _ l 0]
theorem oz(l:KG)(p:Int→Bool)(f:Nat)(cap:Array Value)(v:Value)(G:Ks)(hl:SlV G IE 1 v l)(hf:∀ s,s∈l→I64 s→FnS Tryz.prog f (#[.int .i64 s]++cap) G (.bool (p s))):
  FnS Tryz.prog 109 #[v,.func (.func f) #[] cap] G (.int .i64 (gl p l 0)):=by
 obtain⟨A,c,rfl,hc,hmx,hA⟩:=hl;refine F109.fnS (by simp) (dY ?_);unfold c109;intros;refine gR 0 0 c109r0.eq_1 ?_;intros;refine gR 6 7 c109r1.eq_1 ?_;intros;refine dT ?_;refine ej (fun e h=>∃ k:Nat,(k≤l.length∧gl p l 0=gl p (l.drop k) k)∧e 8=.int .i64 k∧e 7=.int .i64 l.length∧e 0=.slice A l.length c∧e 1=.func (.func f) #[] cap∧h=⟨G,[],[]⟩) (fun e h=>l.length - iv (e 8)) ?_ ?_
 ·exact⟨0,⟨Nat.zero_le _,rfl⟩,eE,eE,eE,eE,rfl⟩
 rintro e h ⟨k,⟨hk,hfi⟩,e8,e7,e0,e1,rfl⟩;refine dV [0,1,7,8] ?_;refine sJ4 @e0 @e1 @e7 @e8 ?_;intros;refine gR 0 0 c109r2.eq_1 ?_;intros;refine gC ?_;refine gb (fun ht=>?_) (fun ht=>?_)
 ·have ht:k < l.length:=by have:=KM ht;omega
  have hw:=eW k c (by omega) hmx;obtain⟨s,hs⟩:∃ s,l[k]?=some s:=⟨l[k],getElem?_eq_getElem (by omega)⟩;rw[nL hs]at hfi;intros;refine gN ?_;intros;refine gR 10 11 c109r3.eq_1 ?_;intros;refine gR 11 16 c109r4.eq_1 ?_;refine hA.x_l1 hs rfl rfl ?_;rintro a1 ha1 u1 ⟨hu,hi⟩;cases hu;have hcl:=hf s (mem_of_getElem? hs) hi;refine sI ?_;refine .inl ⟨f,cap,rfl,?_⟩;refine fK (hcl _ _) ?_
  intros;refine gC ?_;refine gb (fun k1=>?_) (fun k1=>?_)
  ·rw[if_pos k1]at hfi;intros;refine gR 17 18 c109r5.eq_1 ?_;intros;refine rW ?_;rw[hfi]
  ·rw[if_neg (by rw[k1];simp)]at hfi;intros;refine gN ?_;intros;refine gR2 18 19 c109r6.eq_1 @hw ?_;intros;refine dT ?_;refine eF ⟨⟨k+1,⟨by omega,hfi⟩,eE,eE,eE,eE,rfl⟩,?_⟩;refine sI ?_;omega
 ·have ht:k=l.length:=by have:=KN ht;omega
  subst ht;rw[List.drop_length,gl]at hfi;refine eg ?_;refine sI ?_;intros;refine gR 0 0 c109r7.eq_1 ?_;intros;refine rW ?_;rw[hfi]
theorem pg(l:KG)(p:Int→Bool)(f:Nat)(cap:Array Value)(v:Value)(G:Ks)(hl:SlV G IE 1 v l)(hf:∀ s,s∈l→I64 s→FnS Tryz.prog f (#[.int .i64 s]++cap) G (.bool (p s))):
  FnS Tryz.prog 56 #[v,.func (.func f) #[] cap] G (.bool (l.any p)):=by
 refine F56.fnS (by simp) (dY ?_);unfold c56;intros;refine gR 0 0 c56r0.eq_1 ?_;intros;refine gR 5 9 c56r1.eq_1 ?_;refine fK (oz l p f cap _ _ hl hf _ _) ?_;intros;refine rW ?_;rw[← jG p l 0]
theorem uC(l:List Rp)(p:Rp→Bool)(f:Nat)(cap:Array Value)(v:Value)(G:Ks)(hl:SlV G (RE G) 7 v l)(hf:∀ s cs,s∈l→RE G s cs→FnS Tryz.prog f (#[.agg cs.toArray]++cap) G (.bool (p s))):
  FnS Tryz.prog 107 #[v,.func (.func f) #[] cap] G (.int .i64 (gl p l 0)):=by
 obtain⟨A,c,rfl,hc,hmx,hA⟩:=hl;refine F107.fnS (by simp) (dY ?_);unfold c107;intros;refine gR 0 0 c107r0.eq_1 ?_;intros;refine gR 6 7 c107r1.eq_1 ?_;intros;refine dT ?_;refine ej (fun e h=>∃ k:Nat,(k≤l.length∧gl p l 0=gl p (l.drop k) k)∧e 8=.int .i64 k∧e 7=.int .i64 l.length∧e 0=.slice A l.length c∧e 1=.func (.func f) #[] cap∧h=⟨G,[],[]⟩) (fun e h=>l.length - iv (e 8)) ?_ ?_
 ·exact⟨0,⟨Nat.zero_le _,rfl⟩,eE,eE,eE,eE,rfl⟩
 rintro e h ⟨k,⟨hk,hfi⟩,e8,e7,e0,e1,rfl⟩;refine dV [0,1,7,8] ?_;refine sJ4 @e0 @e1 @e7 @e8 ?_;intros;refine gR 0 0 c107r2.eq_1 ?_;intros;refine gC ?_;refine gb (fun ht=>?_) (fun ht=>?_)
 ·have ht:k < l.length:=by have:=KM ht;omega
  have hw:=eW k c (by omega) hmx;obtain⟨s,hs⟩:∃ s,l[k]?=some s:=⟨l[k],getElem?_eq_getElem (by omega)⟩;rw[nL hs]at hfi;intros;refine gN ?_;intros;refine gR 10 11 c107r3.eq_1 ?_;intros;refine gR 11 16 c107r4.eq_1 ?_;refine hA.x_ld hs rfl rfl ?_;rintro a1 ha1 cs hse;have hcl:=hf s cs (mem_of_getElem? hs) hse;obtain⟨B,d,B2,d2,rfl,-⟩:=hse;unfold fk at hcl ⊢;refine sI ?_
  refine .inl ⟨f,cap,rfl,?_⟩;refine fK (hcl _ _) ?_;intros;refine gC ?_;refine gb (fun k1=>?_) (fun k1=>?_)
  ·rw[if_pos k1]at hfi;intros;refine gR 17 18 c107r5.eq_1 ?_;intros;refine rW ?_;rw[hfi]
  ·rw[if_neg (by rw[k1];simp)]at hfi;intros;refine gN ?_;intros;refine gR2 18 19 c107r6.eq_1 @hw ?_;intros;refine dT ?_;refine eF ⟨⟨k+1,⟨by omega,hfi⟩,eE,eE,eE,eE,rfl⟩,?_⟩;refine sI ?_;omega
 ·have ht:k=l.length:=by have:=KN ht;omega
  subst ht;rw[List.drop_length,gl]at hfi;refine eg ?_;refine sI ?_;intros;refine gR 0 0 c107r7.eq_1 ?_;intros;refine rW ?_;rw[hfi]
theorem pA(l:List Rp)(p:Rp→Bool)(f:Nat)(cap:Array Value)(v:Value)(G:Ks)(hl:SlV G (RE G) 7 v l)(hf:∀ s cs,s∈l→RE G s cs→FnS Tryz.prog f (#[.agg cs.toArray]++cap) G (.bool (p s))):
  FnS Tryz.prog 54 #[v,.func (.func f) #[] cap] G (.bool (l.any p)):=by
 refine F54.fnS (by simp) (dY ?_);unfold c54;intros;refine gR 0 0 c54r0.eq_1 ?_;intros;refine gR 5 9 c54r1.eq_1 ?_;refine fK (uC l p f cap _ _ hl hf _ _) ?_;intros;refine rW ?_;rw[← jG p l 0]
theorem wF(r:Rp)(n:Int)(cs:Kt)(G:Ks)(hr:RE G r cs):FnS Tryz.prog 106 #[.agg cs.toArray,.int .i64 n] G (.int .i64 (IntKind.i64.wrap (r.id - n))):=by
 obtain⟨A,c,B,d,rfl,-⟩:=hr;refine F106.fnS (by simp) (dY ?_);unfold c106 fk;intros;refine gR 0 0 c106r0.eq_1 ?_;intros;refine gR 6 9 c106r1.eq_1 ?_;intros;refine rV ?_;simp only[push_cast,Nat.reduceBEq]
theorem Hy{a b:Int}(ha:I64 a)(hb:I64 b):IntKind.i64.wrap (a - b)=0↔a=b:=by
 unfold I64 at ha hb;rw[IntKind.wrap_i64];omega
theorem sq(l:List Rp)(n:Int)(v:Value)(G:Ks)(hl:SlV G (RE G) 7 v l)(hn:I64 n)(hs:(gj l).Pairwise (· < ·))(hid:∀ r∈l,idI r.id=true):
  FnE Tryz.prog 105 #[v,.int .i64 n,.func (.func 106) #[] #[]] G (fun r=>∃ j:Nat,r=.tuple #[.int .i64 j,.bool (atR l n).isSome]∧j≤l.length∧∀ k,atR l n=some k→j=k):=by
 obtain⟨A,c,rfl,hc,hmx,hA⟩:=hl;have hmono:∀ (i k:Nat) (x y:Rp),i < k→l[i]?=some x→l[k]?=some y→x.id < y.id:=fun i k x y hik hx hy=>by
  obtain⟨g1,e1⟩:=List.getElem?_eq_some_iff.1 hx;obtain⟨g2,e2⟩:=List.getElem?_eq_some_iff.1 hy;rw[List.pairwise_iff_getElem]at hs;have:=hs i k (by simpa [gj]using g1) (by simpa [gj]using g2) hik;simpa [gj,e1,e2]using this
 have hrng:∀ (k:Nat) (x:Rp),l[k]?=some x→0≤x.id∧x.id≤1048576:=fun k x hx=>by
  have:=hid x (mem_of_getElem? hx);simpa [idI]using this
 refine F105.fnE (by simp) (dY ?_);unfold c105;intros;refine gR 0 0 c105r0.eq_1 ?_;intros;refine gR 12 14 c105r1.eq_1 ?_;intros;refine gR 14 15 c105r2.eq_1 ?_;intros;refine dT ?_
 refine ej (fun e h=>∃ i j:Nat,(i≤j∧j≤l.length)∧(∀ k,atR l n=some k→i≤k∧k≤j)∧e 9=.int .i64 i∧e 10=.int .i64 j∧e 8=.int .i64 l.length∧e 0=.slice A l.length c∧e 1=.int .i64 n∧e 2=.func (.func 106) #[] #[]∧h=⟨G,[],[]⟩) (fun e h=>iv (e 10) - iv (e 9)) ?_ ?_
 ·refine⟨0,l.length,⟨by omega,by omega⟩,fun k hk=>?_,eE,eE,eE,eE,eE,eE,rfl⟩;obtain⟨x,hx,-⟩:=ij hk;have:=(List.getElem?_eq_some_iff.1 hx).1;omega
 rintro e h ⟨i,j,⟨hij,hjn⟩,hat,e9,e10,e8,e0,e1,e2,rfl⟩;refine dV [0,1,2,8,9,10] ?_;refine sJ6 @e0 @e1 @e2 @e8 @e9 @e10 ?_;intros;refine gR 15 17 c105r3.eq_1 ?_;intros;refine gC ?_;refine gb (fun ht=>?_) (fun ht=>?_)
 ·have hlt:i < j:=by simpa using ht
  unfold maxLen at hmx;obtain⟨m,hm1,hm2,hh,hv⟩:∃ m:Nat,i≤m∧m < j∧fq .shr (.int .u64 (IntKind.u64.wrap (IntKind.i64.wrap ((i:Int)+j)))) (.int .u64 1)=some (.int .u64 (m:Int))∧IntKind.i64.wrap (m:Int)=m :=
   ⟨(i+j) / 2,by omega,by omega,Hi i j (by omega),cvh i j (by omega)⟩
  obtain⟨x,hx⟩:∃ x,l[m]?=some x:=⟨l[m],getElem?_eq_getElem (by omega)⟩;intros;refine gN ?_;intros;refine gr 18 24 ?_;refine sJ3 c105r4.eq_1 @hh @hv ?_;intros;refine gR 24 31 c105r5.eq_1 ?_;refine hA.x_ld hx rfl rfl ?_;rintro a1 ha1 cs hse;have hcl:=wF x n cs G hse;obtain⟨B,d,B2,d2,rfl,-⟩:=hse;unfold fk at hcl ⊢;refine sI ?_;refine .inl ⟨106,#[],rfl,?_⟩;refine fK (hcl _ _) ?_
  have hxr:=hrng m x hx;have hk:∀ k,atR l n=some k→0≤n∧n≤1048576∧IntKind.i64.wrap (x.id - n)=x.id - n∧((x.id < n∧m < k)∨(n≤x.id∧k≤m)):=fun k hk=>by
   obtain⟨y,hy,hyn⟩:=ij hk;have hyr:=hrng k y hy;refine⟨by omega,by omega,by rw[ei] <;> omega,?_⟩;rcases Nat.lt_trichotomy m k with h | h | h
   ·have:=hmono m k x y h hx hy;omega
   ·subst h;rw[hx]at hy;cases hy;omega
   ·have:=hmono k m y x h hy hx;omega
  intros;refine gC ?_;refine gbD (fun h3=>?_) (fun h3=>?_)
  ·have hw:IntKind.i64.wrap ((m:Int)+1)=(m:Int)+1:=by rw[ei] <;> omega
   intros;refine gR2 32 34 c105r6.eq_1 @hw ?_;intros;refine dT ?_;refine eF ⟨⟨m+1,j,⟨by omega,by omega⟩,fun k hkk=>?_,(eJ @hw),eE,eE,eE,eE,eE,rfl⟩,?_⟩
   ·have:=hk k hkk;have:=hat k hkk;omega
   refine sJ @hw ?_;omega
  ·intros;refine gR 34 35 c105r7.eq_1 ?_;intros;refine dT ?_;refine eF ⟨⟨i,m,⟨by omega,by omega⟩,fun k hkk=>?_,eE,eE,eE,eE,eE,eE,rfl⟩,?_⟩
   ·have:=hk k hkk;have:=hat k hkk;omega
   refine sI ?_;omega
 ·have hij':i=j:=by simp at ht;omega
  subst hij';refine eg ?_;refine sI ?_;have hin:=hjn;have hat:∀ k,atR l n=some k→i=k:=fun k hk=>by have:=hat k hk;omega
  intros;refine gR 35 49 c105r8.eq_1 ?_;refine gd (fun ht=>?_) (fun ht=>?_)
  ·have hlt:i < l.length:=by simpa using ht
   obtain⟨x,hx⟩:∃ x,l[i]?=some x:=⟨l[i],getElem?_eq_getElem (by omega)⟩;refine sI ?_;refine hA.x_ld hx rfl rfl ?_;rintro a1 ha1 cs hse;have hcl:=wF x n cs G hse;obtain⟨B,d,B2,d2,rfl,-,-,-,hxi,-⟩:=hse;unfold fk at hcl ⊢;refine sI ?_;refine .inl ⟨106,#[],rfl,?_⟩;refine fK (hcl _ _) ?_;intros;refine rW ?_;refine⟨i,?_,hin,hat⟩;have:decide (IntKind.i64.wrap (x.id - n)=0)=(atR l n).isSome:=by
    rw[Bool.eq_iff_iff,decide_eq_true_iff,Hy hxi hn];constructor
    ·intro he;rw[← he,lK hs hx];rfl
    ·intro he;obtain⟨k,hk⟩:=Option.isSome_iff_exists.1 he;have:=hat k hk;subst this;obtain⟨y,hy,hyn⟩:=ij hk;rw[hx]at hy;cases hy;exact hyn
   rw[this]
  ·have hlt:i=l.length:=by have:=KN ht;omega
   refine sI ?_;intros;refine rW ?_;refine⟨i,?_,hin,hat⟩;cases hk:atR l n with
   | none=>rfl
   | some k =>
    obtain⟨y,hy,hyn⟩:=ij hk;have:=(List.getElem?_eq_some_iff.1 hy).1;have:=hat k hk;omega
end Go.Proofs.YtpmofpekcbghnaaGreat
namespace Go.Proofs.YtpmofpekcbghnaaGreat
open Go Go.Kx
open List (getElem?_eq_getElem mem_of_getElem? length_append append_nil take_length)
theorem F53:Fun Tryz.prog 53 9 v53 c53 o53:=Fun.mkA Tryz.func53 Tryz.ntmps53
theorem F47:Fun Tryz.prog 47 32 v47 c47 o47:=Fun.mkA Tryz.func47 Tryz.ntmps47
theorem F68:Fun Tryz.prog 68 6 v68 c68 o68:=Fun.mkA Tryz.func68 Tryz.ntmps68
theorem F55:Fun Tryz.prog 55 48 v55 c55 o55:=Fun.mkA Tryz.func55 Tryz.ntmps55
def smR(r:Rp):Prop:=smL r.log.segs∧r.log.segs.length≤1000∧r.eps.length≤1000
theorem C8{l:List Sg}(h:smL l):∀ p,smL (fP p l):=by
 induction l with
 | nil=>intro p s hs;cases hs
 | cons x l ih =>
  intro p s hs;rw[fP]at hs;split at hs
  ·rcases List.mem_cons.1 hs with rfl | hs
   ·have:=h x (.head _);simp only[m8,List.length_take];omega
   ·exact ih (fun y hy=>h y (.tail _ hy)) _ s hs
  ·cases hs
theorem xV{l:Lg}(h:smL l.segs)(hm:l.segs.length≤1000):smL (iQ l).1.segs∧(iQ l).1.segs.length≤1000:=by
 unfold iQ;split
 ·exact⟨C8 h _,by have:=(o5 l.segs none).1;show(fP none l.segs).length≤_;omega⟩
 ·exact⟨fun s hs=>absurd hs (by simp[hH]),by simp[hH]⟩
theorem yc(n:Int)(G:Ks):FnS Tryz.prog 53 #[.int .i64 n] G (.bool (idI n)):=by
 refine F53.fnS (by simp) (dY ?_);unfold c53;intros;refine gR 0 0 c53r0.eq_1 ?_;intros;refine gR 3 9 c53r1.eq_1 ?_;refine gdD (fun h=>?_) (fun h=>?_)
 ·refine sI ?_;intros;refine rW ?_;rw[idI,decide_eq_true (show 0≤n from h),Bool.true_and]
 ·refine sI ?_;intros;refine rW ?_;rw[idI,decide_eq_false (show ¬ 0≤n from h),Bool.false_and]
def Ju(l:KG)(k:Nat):Prop:=∀ i x,i < k→l[i]?=some x→idI x=true∧∀ p,0 < i→l[i - 1]?=some p→p < x
theorem l6{l:KG}:(Ju l l.length∧l≠[])↔gE l:=by
 constructor
 ·rintro⟨h,hn⟩;refine⟨hn,fun n hm=>?_,?_⟩
  ·obtain⟨i,hi⟩:=List.getElem?_of_mem hm;exact(h i n (List.getElem?_eq_some_iff.1 hi).1 hi).1
  ·rw[List.pairwise_iff_getElem];intro i j h1 h2 hij;have key:∀ d i:Nat,(h1:i < l.length)→(h2:i+d+1 < l.length)→l[i] < l[i+d+1]:=by
    intro d
    induction d with
    | zero=>exact fun i h1 h2=>(h (i+0+1) _ h2 (getElem?_eq_getElem h2)).2 _ (by omega) (by simp only[Nat.add_zero,Nat.add_sub_cancel];exact getElem?_eq_getElem h1)
    | succ d ih =>
     intro i h1 h2;have h3:=ih i h1 (by omega);have h4:=(h (i+(d+1)+1) _ h2 (getElem?_eq_getElem h2)).2 (l[i+d+1]'(by omega)) (by omega) (by
      rw[show i+(d+1)+1 - 1=i+d+1 by omega]
      exact getElem?_eq_getElem _)
     omega
   have:=key (j - i - 1) i h1 (by omega);have e:i+(j - i - 1)+1=j:=by omega
   simp only[e]at this;exact this
 ·rintro⟨h1,h2,h3⟩;refine⟨fun i x hi hx=>⟨h2 x (mem_of_getElem? hx),fun p hp hpx=>?_⟩,h1⟩;rw[List.pairwise_iff_getElem]at h3;obtain⟨g1,e1⟩:=List.getElem?_eq_some_iff.1 hx;obtain⟨g2,e2⟩:=List.getElem?_eq_some_iff.1 hpx;rw[← e1,← e2];exact h3 _ _ g2 g1 (by omega)
open Classical in
noncomputable def dB(p:Prop):Bool:=decide p
theorem Fe{p:Prop}(h:p):dB p=true:=by simp[dB,h]
theorem Et{p:Prop}(h:¬ p):dB p=false:=by simp[dB,h]
theorem Bj{p:Prop}:dB p=true↔p:=by simp[dB]
noncomputable def Bv(l:KG):Bool:=dB (gE l)
theorem tc{l:KG}(h:gE l):Bv l=true:=Fe h
theorem BF{l:KG}(h:¬ gE l):Bv l=false:=Et h
theorem o3{l:KG}:Bv l=true↔gE l:=Bj
theorem pq(l:KG)(v:Value)(G:Ks)(hl:SlV G IE 1 v l):FnS Tryz.prog 47 #[v] G (.bool (Bv l)):=by
 obtain⟨A,c,rfl,hc,hmx,hA⟩:=hl;refine F47.fnS (by simp) (dY ?_);unfold c47;intros;refine gR 0 0 c47r0.eq_1 ?_;intros;refine gR 0 0 c47r1.eq_1 ?_;intros;refine dT ?_;refine ej (fun e h=>∃ k:Nat,(k≤l.length∧Ju l k)∧e 7=.int .i64 k∧e 6=.int .i64 l.length∧e 5=.slice A l.length c∧e 0=.slice A l.length c∧h=⟨G,[],[]⟩) (fun e h=>l.length - iv (e 7)) ?_ ?_
 ·exact⟨0,⟨Nat.zero_le _,fun i x hi=>absurd hi (by omega)⟩,eE,eE,eE,eE,rfl⟩
 rintro e h ⟨k,⟨hk,hr⟩,e7,e6,e5,e0,rfl⟩;refine dV [0,5,6,7] ?_;refine sJ4 @e0 @e5 @e6 @e7 ?_;intros;refine gR 0 0 c47r2.eq_1 ?_;intros;refine gC ?_;refine gb (fun ht=>?_) (fun ht=>?_)
 ·have ht:k < l.length:=by have:=KM ht;omega
  have hw:=eW k c (by omega) hmx;obtain⟨x,hx⟩:∃ s,l[k]?=some s:=⟨l[k],getElem?_eq_getElem (by omega)⟩;have hno:∀ (fr:KA) (e:Env),¬ (idI x=true∧∀ p,0 < k→l[k - 1]?=some p→p < x)→go none Tryz.prog 32 v47.1 v47.2 (fI o47 fun v h=>v=.bool (Bv l)) (Td.s ((SC.reg false c47r5).seq .ret) :: fr) e ⟨G,[],[]⟩:=fun fr e hn=>by
   intros;refine gR 0 0 c47r5.eq_1 ?_;intros;refine rW ?_;rw[BF fun h=>hn ((l6.2 h).1 k x ht hx)]
  intros;refine gN ?_;intros;refine gR 9 12 c47r3.eq_1 ?_;refine hA.x_l1 hx rfl rfl ?_;rintro a1 ha1 u1 ⟨hu,-⟩;cases hu;refine sI ?_;intros;refine gR 12 27 c47r4.eq_1 ?_;refine fK (yc x _ _ _) ?_;refine gd (fun k1=>?_) (fun k1=>?_)
  ·have k1:idI x=false:=by simpa using k1
   refine sI ?_;intros;refine gC ?_;exact hno _ _ fun h=>by rw[k1]at h;cases h.1
  have k1:idI x=true:=by simpa using k1
  refine sI ?_;refine gd (fun k2=>?_) (fun k2=>?_)
  ·have k2:0 < k:=by have:=KM k2;omega
   have hw1:IntKind.i64.wrap ((k:Int) - 1)=(k:Int) - 1:=by unfold maxLen at hmx;rw[ei] <;> omega
   obtain⟨p,hp⟩:∃ s,l[k - 1]?=some s:=⟨l[k - 1],getElem?_eq_getElem (by omega)⟩;refine sJ @hw1 ?_;refine hA.x_l1 hp (by omega) rfl ?_;rintro a2 ha2 u2 ⟨hu,-⟩;cases hu;refine sI ?_;intros;refine gC ?_;refine gbD (fun k3=>?_) (fun k3=>?_)
   ·exact hno _ _ fun h=>by have:=h.2 p k2 hp;omega
   intros;refine gN ?_;intros;refine gR2 28 29 c47r6.eq_1 @hw ?_;intros;refine dT ?_;refine eF ⟨⟨k+1,⟨by omega,fun i y hi hy=>?_⟩,eE,eE,eE,eE,rfl⟩,?_⟩
   ·by_cases hik:i=k
    ·subst hik;rw[hx]at hy;cases hy;exact⟨k1,fun q _ hq=>by rw[hp]at hq;cases hq;omega⟩
    ·exact hr i y (by omega) hy
   refine sI ?_;omega
  ·have k2:k=0:=by have:=KN k2;omega
   refine sI ?_;intros;refine gC ?_;intros;refine gN ?_;intros;refine gR2 28 29 c47r6.eq_1 @hw ?_;intros;refine dT ?_;refine eF ⟨⟨k+1,⟨by omega,fun i y hi hy=>?_⟩,eE,eE,eE,eE,rfl⟩,?_⟩
   ·have hik:i=k:=by omega
    subst hik;rw[hx]at hy;cases hy;exact⟨k1,fun q h0 _=>absurd h0 (by omega)⟩
   refine sI ?_;omega
 ·have ht:k=l.length:=by have:=KN ht;omega
  subst ht;refine eg ?_;refine sI ?_;intros;refine gR 29 32 c47r7.eq_1 ?_;intros;refine rW ?_;by_cases hn:l=[]
  ·rw[BF fun h=>h.1 hn,hn];rfl
  ·rw[tc (l6.1 ⟨hr,hn⟩)];have:0 < l.length:=List.length_pos_iff.2 hn;simp;omega
theorem iB(r:Rp)(cs:Kt)(G:Ks)(hr:RE G r cs)(hb:smL r.log.segs)(hm:r.log.segs.length≤1000000):FnS Tryz.prog 68 #[.agg cs.toArray] G (.int .i64 (fg r.log)):=by
 obtain⟨A,c,B,d,rfl,h1,h2,⟨h3,h4⟩,-⟩:=hr;have hend:=sP r.log (eG r.log A c) G ⟨A,c,rfl,h1,h3,h4⟩ hb hm;refine F68.fnS (by simp) (dY ?_);unfold c68 fk;unfold eG at hend;intros;refine gR 0 0 c68r0.eq_1 ?_;intros;refine gR 4 6 c68r1.eq_1 ?_;refine fK (hend _ _) ?_;intros;refine rV ?_;simp only[push_cast,Nat.reduceBEq]
noncomputable def Fm(r:Rp):Bool:=dB (¬ okR r)
theorem uh{r:Rp}(h:¬ okR r):Fm r=true:=Fe h
theorem wo{r:Rp}(h:okR r):Fm r=false:=Et fun k=>k h
theorem FS(r:Rp)(cs:Kt)(G:Ks)(hr:RE G r cs)(hsm:smR r):FnS Tryz.prog 55 #[.agg cs.toArray] G (.bool (Fm r)):=by
 have hr0:=hr;obtain⟨hb,hm,he⟩:=hsm;obtain⟨A,c,B,d,rfl,h1,h2,⟨h3,h4⟩,h5,h6⟩:=hr;have hl:LE G r.log (eG r.log A c):=⟨A,c,rfl,h1,h3,h4⟩;have hchk:=jY r.log _ G hl;have hrec:=oL r.log _ G hl hb hm;have hend:=iB r _ G hr0 hb (by omega);refine F55.fnS (by simp) (dY ?_);unfold c55;unfold fk at hend ⊢;unfold eG at hchk hrec;intros;refine gR 0 0 c55r0.eq_1 ?_;intros;intros;try refine ed ?_
 have hno:∀ (fr:KA) (e:Env) (L:Kv),¬ okR r→go none Tryz.prog 48 v55.1 v55.2 (fI o55 fun v h=>v=.bool (Fm r)) (Td.s ((SC.reg false c55r2).seq .ret) :: fr) e ⟨G,L,[]⟩:=fun fr e L hn=>by
  intros;refine gR 0 0 c55r2.eq_1 ?_;intros;refine rW ?_;rw[uh hn]
 have hcE:=jH r.eps _ G h2;intros;refine gR 5 23 c55r1.eq_1 ?_;refine fK (yc r.id _ _ _) ?_;refine gd (fun k1=>?_) (fun k1=>?_)
 ·have k1:idI r.id=false:=by simpa using k1
  refine sI ?_;intros;refine gC ?_;exact hno _ _ _ fun h=>by have:=h.1.1;rw[k1]at this;cases this
 have k1:idI r.id=true:=by simpa using k1
 refine sI ?_;refine fK (hcE _ _) ?_;refine gd (fun k2=>?_) (fun k2=>?_)
 ·have k2:=KM k2;refine sI ?_;intros;refine gC ?_;exact hno _ _ _ fun h=>k2 h.1.2.1
 have k2:gP r.eps=0:=by simpa using k2
 refine sI ?_;refine gdD (fun k3=>?_) (fun k3=>?_)
 ·refine sI ?_;intros;refine gC ?_;exact hno _ _ _ fun h=>by have:=h.1.2.2.1;omega
 refine sI ?_;intros;refine gC ?_;refine gbD (fun k4=>?_) (fun k4=>?_)
 ·exact hno _ _ _ fun h=>by have:=h.1.2.2.2;omega
 intros;refine gN ?_;intros;refine gR 25 26 c55r3.eq_1 ?_;intros;try refine ed ?_
 refine eL (fun e h=>∃ (G':Ks) (A':Ky) (c':Nat),(Gle G G'∧LE G' (n7 r) (eG (n7 r) A' c'))∧h=⟨G',[.reg 3 (eG (n7 r) A' c'),.reg 1 (fk r A c B d)],[]⟩) ?_ ?_
 ·intros;try refine ed ?_
  intros;refine gR 27 28 c55r4.eq_1 ?_;intros;refine gC ?_;refine gb (fun k5=>?_) (fun k5=>?_)
  ·have k5:r.up=false:=by simpa using k5
   have hlr:n7 r=(iQ r.log).1:=by rw[n7,if_neg (by rw[k5];simp)]
   intros;refine gR 29 34 c55r5.eq_1 ?_;refine(hrec _ _).mono ?_;rintro v h' ⟨G1,rfl,hg1,cs,rfl,hle⟩;have hle0:=hle;obtain⟨A1,c1,rfl,-⟩:=hle;unfold eG;refine sI ?_;intros;refine gN ?_;exact eF ⟨G1,A1,c1,⟨hg1,by rw[hlr];exact hle0⟩,by rw[hlr];rfl⟩
  ·have k5:r.up=true:=by simpa using k5
   have hlr:n7 r=r.log:=by rw[n7,if_pos k5]
   intros;refine gN ?_;exact eF ⟨G,A,c,⟨.refl G,by rw[hlr];exact hl⟩,by rw[hlr];rfl⟩
 rintro e h ⟨G1,A1,c1,⟨hg1,hle⟩,rfl⟩;refine dV [] ?_;have hls:smL (n7 r).segs∧(n7 r).segs.length≤1000:=by
  unfold n7;split
  ·exact⟨hb,hm⟩
  ·exact xV hb hm
 have hchk1:=jY (n7 r) _ G1 hle;have hend1:=iB r (fk r A c B d) G1 (RE.le hg1 hr0) hb (by omega);unfold eG at hchk1;unfold fk at hend1;unfold eG fk;intros;intros;refine dT ?_;refine lk _ KJ (by decide) ?_;refine sJ c55r6.eq_1 ?_;refine fK (hchk1 _ _) ?_;refine gx (fun k5=>?_) (fun k5=>?_)
 ·have k5:=KM k5;refine sI ?_;intros;refine rW ?_;rw[uh fun h=>k5 h.2.1]
 have k5:fS (n7 r)=0:=by simpa using k5
 refine sI ?_;refine gx (fun k6=>?_) (fun k6=>?_)
 ·have k6:r.up=true:=by simpa using k6
  refine sI ?_;refine fK (hend1 _ _) ?_;intros;refine rW ?_;by_cases k7:r.high≤fg r.log
  ·rw[wo ⟨⟨k1,k2,by omega,by omega⟩,k5,fun _=>k7⟩];simp;omega
  ·rw[uh fun h=>k7 (h.2.2 k6)];simp;omega
 ·have k6:r.up=false:=by simpa using k6
  refine sI ?_;intros;refine rW ?_;rw[wo ⟨⟨k1,k2,by omega,by omega⟩,k5,fun h=>by rw[k6]at h;cases h⟩]
end Go.Proofs.YtpmofpekcbghnaaGreat
namespace Go.Proofs.YtpmofpekcbghnaaGreat
open Go Go.Kx
open List (getElem?_eq_getElem mem_of_getElem? length_append append_nil take_length)
theorem F18:Fun Tryz.prog 18 87 v18 c18 o18:=Fun.mkA Tryz.func18 Tryz.ntmps18
theorem F57:Fun Tryz.prog 57 8 v57 c57 o57:=Fun.mkA Tryz.func57 Tryz.ntmps57
def eB(p:Pt)(A:Ky)(c:Nat)(B:Ky)(d:Nat):Kt:=[.int .i64 p.epoch,.int .i64 p.leader,.int .i64 p.least,.slice A p.isr.length c,.slice B p.reps.length d]
def ri(p:Pt):Prop:=I64 p.epoch∧I64 p.leader∧I64 p.least
def PE(G:Ks)(p:Pt)(cs:Kt):Prop:=∃ A c B d,cs=eB p A c B d∧SlV G IE 1 (.slice A p.isr.length c) p.isr∧SlV G (RE G) 7 (.slice B p.reps.length d) p.reps∧ri p
theorem PE.le{G G':Ks}(hg:Gle G G'){p:Pt}{cs:Kt}(h:PE G p cs):PE G' p cs:=by
 obtain⟨A,c,B,d,h1,h2,h3,h4⟩:=h;exact⟨A,c,B,d,h1,h2.le hg KO,SlR.le hg h3,h4⟩
def smP(p:Pt):Prop:=(∀ r∈p.reps,smR r)∧p.reps.length≤1000∧p.isr.length≤1000
theorem uQ(l:KG)(n:Int)(b:Nat)(v:Value)(G:Ks)(hl:SlV G IE 1 v l)(hb:fB G ⟨b,0,none⟩=some v):FnS Tryz.prog 57 #[.int .i64 n,.pointer (some ⟨b,0,none⟩)] G (.bool (decide (n∉l))):=by
 have hd:(!decide (n∈l))=decide (n∉l):=by simp
 refine F57.fnS (by simp) (dY ?_);unfold c57;intros;refine gR 0 0 c57r0.eq_1 ?_;intros;refine gR 4 8 c57r1.eq_1 ?_;refine⟨_,⟨_,rfl,.g hb⟩,?_⟩;refine sI ?_;refine fK (kz l n _ _ hl _ _) ?_;intros;refine rW ?_;rw[hd]
theorem jk{p:Pt}(h:¬ okP p):fA p=1:=by unfold fA;rw[if_neg h]
theorem lD{p:Pt}(h:okP p):fA p=0:=by unfold fA;rw[if_pos h]
theorem kq(p:Pt)(cs:Kt)(G:Ks)(hp:PE G p cs)(hsm:smP p):FnS Tryz.prog 18 #[.agg cs.toArray] G (.int .i64 (fA p)):=by
 obtain⟨A,c,B,d,rfl,hI,hR,hi1,hi2,hi3⟩:=hp;obtain⟨hs1,hs2,hs3⟩:=hsm;have hR0:=hR;obtain⟨B0,d0,he,hd0,hmx,hA⟩:=hR;cases he;refine F18.fnS (by simp) (dY ?_);unfold c18 eB;intros;refine gR 0 0 c18r0.eq_1 ?_;intros;refine gR 0 0 c18r1.eq_1 ?_;intro b3 hb3;refine sI ?_;intros;refine dU (eA none 3 1) ?_;intros;try refine ed ?_
 refine eL (fun e h=>∃ (u:Value) (zc:Kt),Cells IE 1 (gj p.reps) zc∧e 3=.pointer (some ⟨b3,0,none⟩)∧h=⟨G,[.row u 3 1 p.reps.length zc,.blk b3 [u],.reg 1 (eB p A c B d)],[]⟩) ?_ ?_
 ·intros;try refine ed ?_
  intros;refine gR 0 0 c18r2.eq_1 ?_;intros;refine dT ?_;refine ej (fun e h=>∃ (k:Nat) (u:Value) (zc:Kt),(k≤p.reps.length∧Cells IE 1 (gj (p.reps.take k)) zc)∧e 10=.int .i64 k∧e 9=.int .i64 p.reps.length∧e 8=.slice B p.reps.length d∧e 3=.pointer (some ⟨b3,0,none⟩)∧h=⟨G,[.row u 3 1 (gj (p.reps.take k)).length zc,.blk b3 [u],.reg 1 (eB p A c B d)],[]⟩) (fun e h=>p.reps.length - iv (e 10)) ?_ ?_
  ·exact⟨0,.slice none 0 0,[],⟨Nat.zero_le _,.nil⟩,eE,eE,eE,eE,rfl⟩
  rintro e h ⟨k,u,zc,⟨hk,hzc⟩,e10,e9,e8,e3,rfl⟩;refine dV [3,8,9,10] ?_;refine sJ4 @e3 @e8 @e9 @e10 ?_;intros;refine gR 0 0 c18r3.eq_1 ?_;intros;refine gC ?_;refine gb (fun ht=>?_) (fun ht=>?_)
  ·have ht:k < p.reps.length:=by have:=KM ht;omega
   have hw:=eW k d (by omega) hmx;obtain⟨r,hr⟩:∃ s,p.reps[k]?=some s:=⟨p.reps[k],getElem?_eq_getElem (by omega)⟩;have htk:gj (p.reps.take (k+1))=gj (p.reps.take k)++[r.id]:=by rw[List.take_add_one,hr];simp[gj]
   have hkl:(gj (p.reps.take k)).length=k:=by simp[gj];omega
   intros;refine gN ?_;intros;refine gR 12 14 c18r4.eq_1 ?_;refine hA.x_ld hr rfl rfl ?_;rintro a1 ha1 cs hse;have hie:IE r.id [.int .i64 r.id]:=by
    obtain⟨_,_,_,_,_,_,_,_,h,_⟩:=hse;exact⟨rfl,h⟩
   obtain⟨B1,d1,B2,d2,rfl,-⟩:=hse;unfold fk;refine sI ?_;intros;refine gR 14 19 c18r5.eq_1 ?_;refine⟨_,dZ (.tail _ (.tail _ (.head _))) rfl,?_⟩;refine sI ?_;intro bk hbk;refine xj (L1:=[_]) (L2:=[_,_]) (E:=IE) (x:=r.id) rfl hie rfl (by simp[Value.oneCell']) hzc (by omega) (by omega) fun A' c' zc' hzc'=>?_
   rw[← htk]at hzc' ⊢;refine sI ?_;refine ek [_,_,_] [_] rfl (by simp) ⟨rfl,rfl⟩ ?_;refine sI ?_;intros;refine gN ?_;refine dU (dX (.cons _ (.cons _ KJ))) ?_;intros;refine gR2 19 20 c18r6.eq_1 @hw ?_;intros;refine dT ?_;refine eF ⟨⟨k+1,_,zc',⟨by omega,hzc'⟩,eE,eE,eE,eE,rfl⟩,?_⟩;refine sI ?_;omega
  ·have ht:k=p.reps.length:=by have:=KN ht;omega
   subst ht;rw[take_length]at hzc ⊢;have hln:(gj p.reps).length=p.reps.length:=by simp[gj]
   rw[hln];refine eg ?_;refine sI ?_;intros;refine gN ?_;exact eF ⟨u,zc,hzc,eE,rfl⟩
 rintro e h ⟨u,zc,hzc,e3,rfl⟩;refine dV [3] ?_;refine sJ @e3 ?_;intros;try refine ed ?_
 refine eI (eh [] _ (by decide) hzc) ?_;rintro h' ⟨G1,rfl,hg1,hv1⟩;refine eI (eP [] _) ?_;rintro h' ⟨G2,rfl,hg2,f3⟩;have hg02:=hg1.trans hg2;have f3:=f3 0 _ rfl;rw[eV]at f3;have hids:=hv1.le (E':=IE) hg2 KO;have hI2:=hI.le (E':=IE) hg02 KO;have hR2:=SlR.le hg02 hR0;have hln:(gj p.reps).length=p.reps.length:=by simp[gj]
 obtain⟨A2,c2,rfl,hc2,hm2,hA2⟩:=hids;have hids:SlV G2 IE 1 (.slice A2 (gj p.reps).length c2) (gj p.reps):=⟨A2,c2,rfl,hc2,hm2,hA2⟩;clear hv1 hzc hA2;have hL3:∀ L D,LdN ⟨G2,L,D⟩ (.pointer (some ⟨b3,0,none⟩)) none (.slice A2 (gj p.reps).length c2):=fun L D=>⟨_,rfl,.g f3⟩
 have hodd:=pA p.reps Fm 55 #[] _ G2 hR2 fun r cs hm hr=>FS r cs G2 hr (hs1 r hm)
 have hnin:=pg p.isr (fun n=>decide (n∉gj p.reps)) 57 #[.pointer (some ⟨b3,0,none⟩)] _ G2 hI2 fun n hm hn=>uQ (gj p.reps) n b3 _ G2 hids f3
 unfold eB;have hno:∀ (fr:KA) (e:Env) (L:Kv),¬ okP p→go none Tryz.prog 87 v18.1 v18.2 (fI o18 fun v h=>v=.int .i64 (fA p)) (Td.s ((SC.reg false c18r8).seq .ret) :: fr) e ⟨G2,L,[]⟩:=fun fr e L hn=>by
  intros;refine gR 0 0 c18r8.eq_1 ?_;intros;refine rW ?_;rw[jk hn]
 intros;refine gR 21 50 c18r7.eq_1 ?_;refine fK (yc p.epoch _ _ _) ?_;refine gd (fun k1=>?_) (fun k1=>?_)
 ·have k1:idI p.epoch=false:=by simpa using k1
  refine sI ?_;intros;refine gC ?_;exact hno _ _ _ fun h=>by have:=h.1.1;rw[k1]at this;cases this
 have k1:idI p.epoch=true:=by simpa using k1
 refine sI ?_;refine⟨_,hL3 _ _,?_⟩;refine sI ?_;refine fK (pq _ _ _ hids _ _) ?_;refine gd (fun k2=>?_) (fun k2=>?_)
 ·have k2:Bv (gj p.reps)=false:=by simpa using k2
  refine sI ?_;intros;refine gC ?_;exact hno _ _ _ fun h=>by have:=tc h.1.2.1;rw[k2]at this;cases this
 have k2:gE (gj p.reps):=o3.1 (by simpa using k2);refine sI ?_;refine⟨_,hL3 _ _,?_⟩;refine sJ @hln ?_;refine gdD (fun k3=>?_) (fun k3=>?_)
 ·refine sI ?_;intros;refine gC ?_;exact hno _ _ _ fun h=>by have:=h.1.2.2.1;omega
 refine sI ?_;refine gdD (fun k4=>?_) (fun k4=>?_)
 ·refine sI ?_;intros;refine gC ?_;exact hno _ _ _ fun h=>by have:=h.1.2.2.2.1;omega
 refine sI ?_;refine⟨_,hL3 _ _,?_⟩;refine sJ @hln ?_;refine gdD (fun k5=>?_) (fun k5=>?_)
 ·refine sI ?_;intros;refine gC ?_;exact hno _ _ _ fun h=>by have:=h.1.2.2.2.1;omega
 refine sI ?_;refine fK (hodd _ _) ?_;intros;refine gC ?_;refine gb (fun k6=>?_) (fun k6=>?_)
 ·obtain⟨r,hr,ho⟩:=List.any_eq_true.1 k6;exact hno _ _ _ fun h=>by rw[wo (h.1.2.2.2.2 r hr)]at ho;cases ho
 have k6:∀ r∈p.reps,okR r:=fun r hr=>Classical.byContradiction fun hn=>by
  rw[List.any_eq_false]at k6;exact k6 r hr (uh hn)
 have hp1:idI p.epoch=true∧gE (gj p.reps)∧p.reps.length≤5∧(1≤p.least∧p.least≤(p.reps.length:Int))∧∀ r∈p.reps,okR r:=⟨k1,k2,by omega,⟨by omega,by omega⟩,k6⟩;clear hno;intros;refine gN ?_;intros;try refine ed ?_
 have hno:∀ (fr:KA) (e:Env) (L:Kv),¬ okP p→go none Tryz.prog 87 v18.1 v18.2 (fI o18 fun v h=>v=.int .i64 (fA p)) (Td.s ((SC.reg false c18r10).seq .ret) :: fr) e ⟨G2,L,[]⟩:=fun fr e L hn=>by
  intros;refine gR 0 0 c18r10.eq_1 ?_;intros;refine rW ?_;rw[jk hn]
 intros;refine gR 52 60 c18r9.eq_1 ?_;refine fK (pq _ _ _ hI2 _ _) ?_;refine gd (fun k7=>?_) (fun k7=>?_)
 ·have k7:Bv p.isr=false:=by simpa using k7
  refine sI ?_;intros;refine gC ?_;exact hno _ _ _ fun h=>by have:=tc h.2.1.1;rw[k7]at this;cases this
 have k7:gE p.isr:=o3.1 (by simpa using k7);refine sI ?_;refine fK (hnin _ _) ?_;intros;refine gC ?_;refine gb (fun k8=>?_) (fun k8=>?_)
 ·obtain⟨n,hn,ho⟩:=List.any_eq_true.1 k8;exact hno _ _ _ fun h=>(KM ho) (h.2.1.2 n hn)
 have k8:∀ n∈p.isr,n∈gj p.reps:=fun n hn=>Classical.byContradiction fun hh=>by
  rw[List.any_eq_false]at k8;exact k8 n hn (decide_eq_true hh)
 clear hno;intros;refine gN ?_;intros;refine gR 62 63 c18r11.eq_1 ?_;intros;refine gC ?_;refine gbD (fun k9=>?_) (fun k9=>?_)
 ·intros;refine gR 0 0 c18r12.eq_1 ?_;intros;refine rW ?_;rw[lD ⟨hp1,⟨k7,k8⟩,.inl k9⟩]
 intros;refine gN ?_;intros;refine gR 64 68 c18r13.eq_1 ?_;refine⟨_,hL3 _ _,?_⟩;refine sI ?_;refine fK (rG _ p.leader _ _ hids _ _) ?_;have hno:∀ (fr:KA) (e:Env) (L:Kv),¬ okP p→go none Tryz.prog 87 v18.1 v18.2 (fI o18 fun v h=>v=.int .i64 (fA p)) (Td.s ((SC.reg false c18r15).seq .ret) :: fr) e ⟨G2,L,[]⟩:=fun fr e L hn=>by
  intros;refine gR 0 0 c18r15.eq_1 ?_;intros;refine rW ?_;rw[jk hn]
 intros;try refine ed ?_
 rcases lu (fun y=>decide (p.leader=y)) (gj p.reps) 0 with⟨q1,q2⟩ | ⟨k,y,q1,q2,q3,-⟩
 ·rw[q1];have hd:decide ((-1:Int) < 0)=true:=by decide
  intros;refine gR2 68 86 c18r14.eq_1 @hd ?_;intros;refine gC ?_;refine hno _ _ _ fun h=>?_
  rcases h.2.2 with h | ⟨⟨r,hr,he,-⟩,-⟩
  ·exact k9 h
  ·have:=KN (q2 r.id (List.mem_map.2 ⟨r,hr,rfl⟩));exact this he.symm
 rw[q1,Nat.zero_add];have q3:=KM q3;subst q3;obtain⟨r,hr,hre⟩:∃ r,p.reps[k]?=some r∧r.id=p.leader:=by
  rw[gj,List.getElem?_map,Option.map_eq_some_iff]at q2;exact q2
 have hkl:=(List.getElem?_eq_some_iff.1 hr).1;obtain⟨A5,c5,he5,_,_,hA5⟩:=hR2;cases he5;have hd:decide ((k:Int) < 0)=false:=by simp
 intros;refine gR2 68 86 c18r14.eq_1 @hd ?_;refine hA5.x_lf hr rfl rfl (fun cs hse=>by obtain⟨_,_,_,_,rfl,-⟩:=hse;rfl) ?_;rintro a6 ha6;refine sI ?_;refine gd (fun k10=>?_) (fun k10=>?_)
 ·have k10:r.up=false:=by simpa using k10
  refine sI ?_;intros;refine gC ?_;refine hno _ _ _ fun h=>?_
  rcases h.2.2 with h | ⟨⟨r',hr',he,hu⟩,-⟩
  ·exact k9 h
  ·obtain⟨j,hj⟩:=List.getElem?_of_mem hr';have e1:=lK k2.2.2 hr;have e2:=lK k2.2.2 hj;rw[he,← hre,e1]at e2;cases e2;rw[hr]at hj;cases hj;rw[k10]at hu;cases hu
 have k10:r.up=true:=by simpa using k10
 refine sI ?_;refine fK (kz _ p.leader _ _ hI2 _ _) ?_;intros;refine gC ?_;refine gb (fun k11=>?_) (fun k11=>?_)
 ·have k11:p.leader∉p.isr:=by simpa using k11
  refine hno _ _ _ fun h=>?_
  rcases h.2.2 with h | h
  ·exact k9 h
  ·exact k11 h.2
 have k11:p.leader∈p.isr:=by simpa using k11
 intros;refine gN ?_;intros;refine gR 0 0 c18r16.eq_1 ?_;intros;refine rW ?_;rw[lD ⟨hp1,⟨k7,k8⟩,.inr ⟨⟨r,mem_of_getElem? hr,hre,k10⟩,k11⟩⟩]
end Go.Proofs.YtpmofpekcbghnaaGreat
namespace Go.Proofs.YtpmofpekcbghnaaGreat
open Go Go.Kx Go.RowKit
open List (getElem?_eq_getElem mem_of_getElem? length_append append_nil take_length)
theorem wW{P:Program}{W:World}{t:TypeId}{fs:Array Field}(ht:P.underlying t=some (.struct fs)){k:Nat}(hC:P.cellsOf t=k){H:Type}{enc:TypeId × Value→H}{fuel:Nat}{cs:Kt}{x:DataW H × List MemPlace}
  (hx:DataW.trod enc P W 0 (fun _=>true) true fuel t cs=some x):cs.length=k∧∀ (i:Nat) (f:Field),fs[i]?=some f→∀ o m,f.offset=o→P.cellsOf f.type=m→∃ n y,DataW.trod enc P W 0 (fun _=>true) true n f.type ((cs.drop o).take m)=some y:=by
 obtain⟨ys,n,_,_,hlen,hyl,hf⟩:=DataW.trod_struct ht hx;rw[hC]at hlen;refine⟨hlen,fun i f hi o m ho hm=>?_⟩;subst ho hm;have h1:=hf i f hi;have hil:i < fs.size:=(Array.getElem?_eq_some_iff.1 hi).1;have hys:ys[i]?=some (ys[i]'(by omega)):=getElem?_eq_getElem (by omega);exact⟨n,_,h1.trans hys⟩
theorem Al(W:World):ip Tryz.prog W 151 EpE:=fun H enc fuel cs x hx=>by
 obtain⟨hl,hf⟩:=jp Tryz.underlying151 (by kernel_rfl) (by kernel_rfl) hx;obtain⟨v0,_,_,c0,t0⟩:=hf 0 _ rfl;obtain⟨v1,_,_,c1,t1⟩:=hf 1 _ rfl;obtain⟨n0,e0,w0⟩:=(f0 Tryz.underlying3).at_ t0;obtain⟨n1,e1,w1⟩:=(f0 Tryz.underlying3).at_ t1;cases e0;cases e1;refine⟨(n0,n1),?_,jI w0,jI w1⟩
 match cs,hl with
 | [_,_],_=>cases c0;cases c1;rfl
theorem vS(W:World):ip Tryz.prog W 48 (fun(l:List Ep) cs=>∃ A c,cs=[.slice A l.length c]∧l.length≤c∧c≤maxLen∧SlA (pF W) EpE 2 A l) :=
 iW Tryz.underlying48 (by kernel_rfl) (Al W)
theorem vY(W:World):ip Tryz.prog W 50 (RE (pF W)):=fun H enc fuel cs x hx=>by
 obtain⟨hl,hf⟩:=wW (k:=7) Tryz.underlying50 (by kernel_rfl) hx
 match cs,hl with
 | [x0,x1,x2,x3,x4,x5,x6],_ =>
  obtain⟨_,_,t0⟩:=hf 0 _ rfl 0 1 rfl (by kernel_rfl);obtain⟨_,_,t1⟩:=hf 1 _ rfl 1 1 rfl (by kernel_rfl);obtain⟨_,_,t2⟩:=hf 2 _ rfl 2 3 rfl (by kernel_rfl);obtain⟨_,_,t3⟩:=hf 3 _ rfl 5 1 rfl (by kernel_rfl);obtain⟨_,_,t4⟩:=hf 4 _ rfl 6 1 rfl (by kernel_rfl);obtain⟨n0,e0,w0⟩:=f0 Tryz.underlying3 _ _ _ _ _ t0;obtain⟨n1,e1⟩:=uJ Tryz.underlying4 _ _ _ _ _ t1;obtain⟨n2,A2,c2,e2,w2⟩:=qK W _ _ _ _ _ t2
  obtain⟨n3,A3,c3,e3,w3⟩:=vS W _ _ _ _ _ t3;obtain⟨n4,e4,w4⟩:=f0 Tryz.underlying3 _ _ _ _ _ t4;cases (show[x0]=[.int .i64 n0]from e0);cases (show[x1]=[.bool n1]from e1);cases (show[x2,x3,x4]=eG n2 A2 c2 from e2);cases (show[x5]=[.slice A3 n3.length c3]from e3);cases (show[x6]=[.int .i64 n4]from e4);exact⟨⟨n0,n1,n2,n3,n4⟩,A2,c2,A3,c3,rfl,w2.1,⟨A3,c3,rfl,w3⟩,w2.2,jI w0,jI w4⟩
theorem ve(W:World):ip Tryz.prog W 23 (fun(l:List Rp) cs=>∃ A c,cs=[.slice A l.length c]∧l.length≤c∧c≤maxLen∧SlA (pF W) (RE (pF W)) 7 A l) :=
 iW Tryz.underlying23 (by kernel_rfl) (vY W)
theorem zJ(W:World):ip Tryz.prog W 3 IE:=(f0 Tryz.underlying3).mono fun n cs ⟨h1,h2⟩=>⟨n,h1,jI h2⟩
theorem wq(W:World):ip Tryz.prog W 22 (fun(l:KG) cs=>∃ A c,cs=[.slice A l.length c]∧l.length≤c∧c≤maxLen∧SlA (pF W) IE 1 A l) :=
 iW Tryz.underlying22 (by kernel_rfl) (zJ W)
theorem uu(W:World):ip Tryz.prog W 25 (PE (pF W)):=fun H enc fuel cs x hx=>by
 obtain⟨hl,hf⟩:=jp Tryz.underlying25 (by kernel_rfl) (by kernel_rfl) hx;obtain⟨v0,_,_,c0,t0⟩:=hf 0 _ rfl;obtain⟨v1,_,_,c1,t1⟩:=hf 1 _ rfl;obtain⟨v2,_,_,c2,t2⟩:=hf 2 _ rfl;obtain⟨v3,_,_,c3,t3⟩:=hf 3 _ rfl;obtain⟨v4,_,_,c4,t4⟩:=hf 4 _ rfl;obtain⟨n0,e0,w0⟩:=(f0 Tryz.underlying3).at_ t0;obtain⟨n1,e1,w1⟩:=(f0 Tryz.underlying3).at_ t1;obtain⟨n2,e2,w2⟩:=(f0 Tryz.underlying3).at_ t2
 obtain⟨n3,A,c,e3,w3⟩:=(wq W).at_ t3;obtain⟨n4,B,d,e4,w4⟩:=(ve W).at_ t4;cases e0;cases e1;cases e2;cases e3;cases e4;refine⟨⟨n0,n1,n2,n3,n4⟩,A,c,B,d,?_,⟨A,c,rfl,w3⟩,⟨B,d,rfl,w4⟩,jI w0,jI w1,jI w2⟩
 match cs,hl with
 | [_,_,_,_,_],_=>cases c0;cases c1;cases c2;cases c3;cases c4;rfl
end Go.Proofs.YtpmofpekcbghnaaGreat

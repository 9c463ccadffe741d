/- Parts of a proof, 3 texts in one file. No condition. -/
import Derived.Test.YtpmofpekcbghnaaGreatM1
import Derived.Test.YtpmofpekcbghnaaGreatM2
import Derived.Test.YtpmofpekcbghnaaGreatM3
import Derived.Test.YtpmofpekcbghnaaGreatM4
import Derived.Test.YtpmofpekcbghnaaGreatM5
import Derived.Test.YtpmofpekcbghnaaGreatM6
import Derived.Test.YtpmofpekcbghnaaGreatM7
import Derived.Test.YtpmofpekcbghnaaGreatM8
set_option linter.unusedSimpArgs false
set_option linter.unusedVariables false
namespace Go.Proofs.YtpmofpekcbghnaaGreat
open Go Go.Kx
open List (getElem?_eq_getElem mem_of_getElem? length_append append_nil append_assoc length_cons take_length)
theorem F31:Fun Tryz.prog 31 18 v31 c31 o31:=Fun.mkA Tryz.func31 Tryz.ntmps31
theorem F30:Fun Tryz.prog 30 24 v30 c30 o30:=Fun.mkA Tryz.func30 Tryz.ntmps30
theorem F32:Fun Tryz.prog 32 22 v32 c32 o32:=Fun.mkA Tryz.func32 Tryz.ntmps32
def uf(k:Nat):Ki:=(List.range k).map fun(i:Nat)=>(i:Int)
theorem vq(k:Nat):uf (k+1)=uf k++[(k:Int)]:=by rw[uf,List.range_succ,List.map_append];rfl
theorem lq(k:Nat):(uf k).length=k:=by simp[uf]
theorem zR{k:Nat}(h:1≤k)(h5:k≤5):fu (uf k):=by
 refine⟨fun e=>by have:=congrArg List.length e;rw[lq]at this;simp at this;omega,fun n hn=>?_,?_⟩
 ·obtain⟨i,hi,rfl⟩:=List.mem_map.1 hn;have:=List.mem_range.1 hi;simp[idI];omega
 ·rw[uf,List.pairwise_map];exact List.pairwise_lt_range.imp fun h=>by omega
theorem HW(n:Int):∃ m:Nat,ff .and (.int .i64 n) (.int .i64 65535)=some (.int .i64 (m:Int))∧m≤65535:=by
 have h:(BitVec.ofInt 64 n &&& BitVec.ofInt 64 65535).toNat≤65535:=by
  rw[BitVec.toNat_and];exact Nat.and_le_right
 refine⟨(BitVec.ofInt 64 n &&& BitVec.ofInt 64 65535).toNat,?_,h⟩;show some (Value.int .i64 (IntKind.i64.wrap (((BitVec.ofInt 64 n &&& BitVec.ofInt 64 65535).toNat:Nat):Int)))=_;rw[dX] <;> omega
theorem JB(m:Nat):ff .rem (.int .i64 (m:Int)) (.int .i64 5)=some (.int .i64 ((m % 5:Nat):Int)):=rfl
theorem Gn(n:Int)(G:J5):FnD Tryz.prog 31 #[.int .i64 n] G (fun G v=>∃ k:Nat,(1≤k∧k≤5)∧SlV G IE 1 v (uf k)):=by
 obtain⟨m,hm,hm1⟩:=HW n;have hr:=JB m;obtain⟨r,hr1⟩:∃ r:Nat,r=m % 5:=⟨_,rfl⟩;rw[← hr1]at hr;have hr5:r≤4:=by omega
 have hw:IntKind.i64.wrap (1+(r:Int))=((r+1:Nat):Int):=by rw[dX] <;> omega
 refine F31.fnD (by simp) (dI ?_);unfold c31;intros;refine gR 0 0 c31r0.eq_1 ?_;try with_reducible exact True.intro
 intros;refine gR 0 0 c31r1.eq_1 ?_;try with_reducible exact True.intro
 intros;refine dA (dW none 3 1) ?_;intros;try refine dx ?_
 intros;try refine dx ?_
 intros;refine gR 0 0 c31r2.eq_1 ?_;try with_reducible exact True.intro
 intros;refine dy ?_;refine dV (fun e h=>∃ (k:Nat) (u:Value) (ys:J6),(k≤r+1∧Cells IE 1 (uf k) ys)∧e 4=.int .i64 k∧e 3=u∧e 0=.int .i64 n∧h=⟨G,[.row u 3 1 (uf k).length ys],[]⟩) (fun e h=>r+1 - iv (e 4)) ?_ ?_
 ·exact⟨0,.slice none 0 0,[],⟨Nat.zero_le _,.nil⟩,eE,eE,eE,rfl⟩
 rintro e h ⟨k,u,ys,⟨hk,hys⟩,e4,e3,e0,rfl⟩;refine dC [0,3,4] ?_
 (refine sJ3 @e0 @e3 @e4 ?_;try with_reducible exact True.intro)
 intros;refine gr 5 10 ?_;(refine sJ4 c31r3.eq_1 @hm @hr @hw ?_;try with_reducible exact True.intro);intros;refine gC ?_;try with_reducible exact True.intro
 refine gb (fun k1=>?_) (fun k1=>?_)
 ·have k1:k < r+1:=by have:=Kn k1;omega
  have hw1:IntKind.i64.wrap ((k:Int)+1)=(k:Int)+1:=by rw[dX] <;> omega
  have hki:=lq k;intros;refine gN ?_;intros;refine gR 13 17 c31r4.eq_1 ?_;try with_reducible exact True.intro
  intro bv hbv;refine yu (L1:=[]) (L2:=[]) (E:=IE) (x:=(k:Int)) rfl ⟨rfl,by unfold I64;omega⟩ rfl (by simp[Value.oneCell']) hys (by omega) (by omega) fun A' c' ys' hys'=>?_
  rw[← vq]at hys' ⊢
  (refine sI ?_;try with_reducible exact True.intro)
  intros;refine gN ?_;refine dA (dE (.cons _ Kl)) ?_;intros;refine gR2 11 13 c31r5.eq_1 @hw1 ?_;try with_reducible exact True.intro
  intros;refine dy ?_;refine ej ⟨⟨k+1,_,ys',⟨by omega,hys'⟩,eE,eE,eE,rfl⟩,?_⟩
  (refine sI ?_;try with_reducible exact True.intro)
  omega
 ·have k1:k=r+1:=by have:=Ko k1;omega
  subst k1;intros;refine gN ?_;refine dS ?_
  (refine sI ?_;try with_reducible exact True.intro)
  intros;refine ei (dT [] _ (by decide) hys) ?_;rintro h' ⟨G1,rfl,hg1,hv⟩;simp only[List.append_eq,List.nil_append];intros;refine gR 17 18 c31r6.eq_1 ?_;try with_reducible exact True.intro
  intros;refine rW ?_;exact⟨r+1,⟨by omega,by omega⟩,hv⟩
theorem Jy{P:Program}{h:H}{d:Nat}{l:J7}{G:J5}{B:Ka}{xs:List DoR}{K:Kj}{e:Addr→Env}{j N:Int}{k:Nat}{r:DoR}(hA:SlA G (DE G) 13 B xs)(hx:xs[k]?=some r)(hj:j=k)(hN:0≤j∧j < N)(hG:h.G=G)
  (hk:∀ a,B=some a→∀ cs,BE G r.b cs→kR P l d (e a) K (.agg cs.toArray) h):(0≤j∧j < N)∧∃ a,B=some a∧ldX P (.pointer (some ((a.add (j.toNat * 13)).add 3))) (some 10) d l (e a) h K:=by
 obtain⟨G',L,D⟩:=h;dsimp only at hG;subst hG;obtain⟨a,cs,ha,h1,⟨B5,d5,rfl,hb,-⟩,h4⟩:=hA k r hx;subst hj;refine⟨hN,a,ha,.agg (eP r.b (.slice B5 r.b.recs.length d5)).toArray,?_,hk a ha _ hb⟩;refine⟨_,_,rfl,rfl,rfl,fun j u hu=>?_⟩;rw[fl,fl];refine .g ?_;have:=h4 (3+j) u (by rw[show 3+j=j+1+1+1 by omega];exact hu);simpa using this
theorem Ar(l:List DoR)(v:Value)(G:J5)(hl:SlV G (DE G) 13 v l):FnE Tryz.prog 30 #[v] G (fun r=>∃ b,r=.bool b∧(b=true→l.length≤24)):=by
 obtain⟨A,c,rfl,hc,hm,hA⟩:=hl;refine F30.fnE (by simp) (dI ?_);unfold c30;have hend:∀ (fr:Kc) (e:Env),e 0=.slice A l.length c→go none Tryz.prog 24 v30.1 v30.2 (gl o30 fun r _=>∃ b,r=.bool b∧(b=true→l.length≤24)) (Td.s ((SC.reg false c30r6).seq .ret) :: fr) e ⟨G,[],[]⟩:=fun fr e e0=>by
  refine dC [0] ?_
  (refine sJ @e0 ?_;try with_reducible exact True.intro)
  intros;refine gR 21 24 c30r6.eq_1 ?_;try with_reducible exact True.intro
  intros;refine rW ?_;exact⟨_,rfl,fun h=>by have:=Kn h;omega⟩
 intros;refine gR 0 0 c30r0.eq_1 ?_;try with_reducible exact True.intro
 intros;try refine dx ?_
 intros;try refine dx ?_
 intros;refine gR 0 0 c30r1.eq_1 ?_;try with_reducible exact True.intro
 intros;refine dy ?_;refine dV (fun e h=>∃ k:Nat,k≤l.length∧e 3=.int .i64 k∧e 0=.slice A l.length c∧h=⟨G,[],[]⟩) (fun e h=>l.length - iv (e 3)) ?_ ?_
 ·exact⟨0,Nat.zero_le _,eE,eE,rfl⟩
 rintro e h ⟨k,hk,e3,e0,rfl⟩;refine dC [0,3] ?_
 (refine sJ2 @e0 @e3 ?_;try with_reducible exact True.intro)
 intros;refine gR 4 11 c30r2.eq_1 ?_;try with_reducible exact True.intro
 refine gd (fun k1=>?_) (fun k1=>?_)
 ·have k1:k < l.length:=by have:=Kn k1;omega
  have hw:=fi k c (by omega) hm;obtain⟨x,hx⟩:∃ s,l[k]?=some s:=⟨l[k],getElem?_eq_getElem (by omega)⟩
  (refine sI ?_;try with_reducible exact True.intro)
  intros;refine gC ?_;try with_reducible exact True.intro
  refine gb (fun k2=>?_) (fun k2=>?_)
  ·intros;refine gN ?_;intros;try refine dx ?_
   intros;refine gR 14 20 c30r3.eq_1 ?_;try with_reducible exact True.intro
   refine Jy hA hx rfl (by omega) rfl ?_;rintro a1 ha1 cs hb;have hfew:=FS x.b cs G hb;obtain⟨B5,d5,rfl,-⟩:=hb;unfold eP at hfew ⊢
   (refine sI ?_;try with_reducible exact True.intro)
   refine(hfew _ _).mono ?_;rintro r h' ⟨⟨b1,rfl,-⟩,rfl⟩;cases b1 with
   | false =>
    (refine sI ?_;try with_reducible exact True.intro)
    intros;refine gC ?_;try with_reducible exact True.intro
    intros;refine gR 0 0 c30r4.eq_1 ?_;try with_reducible exact True.intro
    intros;refine rW ?_;exact⟨false,rfl,fun h=>by cases h⟩
   | true =>
    (refine sI ?_;try with_reducible exact True.intro)
    intros;refine gC ?_;try with_reducible exact True.intro
    intros;refine gN ?_;intros;refine gR2 12 14 c30r5.eq_1 @hw ?_;try with_reducible exact True.intro
    intros;refine dy ?_;refine ej ⟨⟨k+1,by omega,eE,eE,rfl⟩,?_⟩
    (refine sI ?_;try with_reducible exact True.intro)
    omega
  ·intros;refine gN ?_;refine dS ?_
   (refine sI ?_;try with_reducible exact True.intro)
   intros;refine gN ?_;exact hend _ _ (eE)
 ·(refine sI ?_;try with_reducible exact True.intro)
  intros;refine gC ?_;try with_reducible exact True.intro
  intros;refine gN ?_;refine dS ?_
  (refine sI ?_;try with_reducible exact True.intro)
  intros;refine gN ?_;exact hend _ _ (eE)
theorem tO(l:List DoR)(p:Pt)(n:Nat)(cs:J6)(v:Value)(G:J5)(hp:PE G p cs)(hi:Inv n p)(hn:n+l.length≤800)(hl:SlV G (DE G) 13 v l):FnD Tryz.prog 32 #[.agg cs.toArray,v] G (fun G r=>∃ cs',r=.agg cs'.toArray∧PE G (jU p l) cs'):=by
 obtain⟨A,c,rfl,hc,hm,hA⟩:=hl;have hp0:=hp;obtain⟨A0,c0,B0,d0,rfl,-⟩:=hp;have htk:∀ k d,l[k]?=some d→jU p (l.take (k+1))=kB (jU p (l.take k)) { d with torn:=0 }:=fun k d hd=>by
  rw[eo hd,jU,List.foldl_append];rfl
 refine F32.fnD (by simp) (dI ?_);unfold c32;unfold d7 at hp0 ⊢;intros;refine gR 0 0 c32r0.eq_1 ?_;try with_reducible exact True.intro
 intros;try refine dx ?_
 intros;try refine dx ?_
 intros;refine gR 0 0 c32r1.eq_1 ?_;try with_reducible exact True.intro
 intros;refine dy ?_
 refine dV (fun e h=>∃ (k:Nat) (x:Pt) (G':J5) (A1:Ka) (c1:Nat) (B1:Ka) (d1:Nat),(k≤l.length∧x=jU p (l.take k)∧Gle G G'∧PE G' x [.int .i64 x.epoch,.int .i64 x.leader,.int .i64 x.least,.slice A1 x.isr.length c1,.slice B1 x.reps.length d1])∧e 5=.int .i64 k∧e 1=.slice A l.length c∧h=⟨G',[.reg 4 [.int .i64 0,.int .i64 0,.int .i64 0,.slice none 0 0,.slice none 0 0],.reg 2 [.int .i64 x.epoch,.int .i64 x.leader,.int .i64 x.least,.slice A1 x.isr.length c1,.slice B1 x.reps.length d1]],[]⟩) (fun e h=>l.length - iv (e 5)) ?_ ?_
 ·exact⟨0,p,G,A0,c0,B0,d0,⟨Nat.zero_le _,rfl,.refl _,hp0⟩,eE,eE,rfl⟩
 rintro e h ⟨k,x,G',A1,c1,B1,d1,⟨hk,hx,hg,hpe⟩,e5,e1,rfl⟩;have hinv:Inv (n+k) x:=by
  have:=nh (l.take k) hi;rw[List.length_take,show min k l.length=k by omega]at this;rw[hx];exact this
 refine dC [1,5] ?_
 (refine sJ2 @e1 @e5 ?_;try with_reducible exact True.intro)
 intros;refine gR 7 10 c32r2.eq_1 ?_;try with_reducible exact True.intro
 intros;refine gC ?_;try with_reducible exact True.intro
 refine gb (fun k1=>?_) (fun k1=>?_)
 ·have k1:k < l.length:=by have:=Kn k1;omega
  have hw:=fi k c (by omega) hm;obtain⟨d,hd⟩:∃ s,l[k]?=some s:=⟨l[k],getElem?_eq_getElem (by omega)⟩;have hnx:=htk k d hd;rw[← hx]at hnx;have hA2:=hA.le (E':=DE G') hg fun _ _ h=>DE.le hg h
  intros;refine gN ?_;intros;try refine dx ?_
  intros;refine gR 13 17 c32r3.eq_1 ?_;try with_reducible exact True.intro
  refine hA2.x_ld hd rfl rfl ?_;rintro a1 ha1 ds ⟨B5,d5,rfl,hb,i1,i2,i3⟩;have hde:DE G' { d with torn:=0 } (.int .i64 d.kind :: .int .i64 d.id :: .int .i64 0 :: eP d.b (.slice B5 d.b.recs.length d5)):=⟨B5,d5,rfl,hb,i1,i2,iA⟩;unfold eP at hde ⊢
  (refine sI ?_;try with_reducible exact True.intro)
  intros;try refine dx ?_
  intros;refine gR 0 0 c32r4.eq_1 ?_;try with_reducible exact True.intro
  intros;refine gR 18 21 c32r5.eq_1 ?_;try with_reducible exact True.intro
  refine(Cx x { d with torn:=0 } _ _ G' hpe (hinv.sm (by omega)) hde _ _).mono ?_;rintro r h' ⟨G2,rfl,hg2,cs2,rfl,hpe2⟩;rw[← hnx]at hpe2;have hpe20:=hpe2;obtain⟨A2,c2,B2,d2,rfl,-⟩:=hpe2;unfold d7 at hpe20 ⊢
  (refine sI ?_;try with_reducible exact True.intro)
  intros;refine gN ?_;refine dA (h':=⟨G2,[.reg 4 [.int .i64 0,.int .i64 0,.int .i64 0,.slice none 0 0,.slice none 0 0],.reg 2 [.int .i64 (jU p (l.take (k+1))).epoch,.int .i64 (jU p (l.take (k+1))).leader,.int .i64 (jU p (l.take (k+1))).least,.slice A2 (jU p (l.take (k+1))).isr.length c2,.slice B2 (jU p (l.take (k+1))).reps.length d2]],[]⟩) (dE (.cons _ Kl)) ?_
  intros;refine gR2 11 13 c32r6.eq_1 @hw ?_;try with_reducible exact True.intro
  intros;refine dy ?_;refine ej ⟨⟨k+1,_,G2,A2,c2,B2,d2,⟨by omega,rfl,hg.trans hg2,hpe20⟩,eE,eE,rfl⟩,?_⟩
  (refine sI ?_;try with_reducible exact True.intro)
  omega
 ·have k1:k=l.length:=by have:=Ko k1;omega
  subst k1;rw[take_length]at hx;subst hx;intros;refine gN ?_;refine dS ?_
  (refine sI ?_;try with_reducible exact True.intro)
  intros;refine gR 21 22 c32r7.eq_1 ?_;try with_reducible exact True.intro
  intros;refine rW ?_;exact⟨_,rfl,hpe⟩
theorem CM{p:Pt}(h:smP p):smL (lZ p).1.segs∧(lZ p).1.segs.length≤1000000:=by
 have h0:smL gy.segs∧gy.segs.length≤1000000:=⟨fun s hs=>absurd hs (by simp[gy]),by simp[gy]⟩;unfold lZ;split
 ·exact h0
 ·split
  ·exact h0
  ·dsimp only;split
   ·rename_i k hk;cases hr:p.reps[k]? with
    | none=>exact h0
    | some r =>
     have:=h.1 r (mem_of_getElem? hr);exact⟨this.1,Nat.le_trans this.2.1 (by decide)⟩
   ·exact h0
theorem F7:Fun Tryz.prog 7 112 v7 c7 o7:=Fun.mkA Tryz.func7 Tryz.ntmps7
theorem nK(n:Int)(l:List DoR)(id:Int)(v:Value)(G:J5)(hn:I64 n)(hl:SlV G (DE G) 13 v l)(hid:I64 id):FnS Tryz.prog 7 #[.int .i64 n,v,.int .i64 id] G (.bool true):=by
 have hlive:=GB G;have hl0:=hl;obtain⟨A,c,rfl,-⟩:=hl;refine F7.fnS (by simp) (dI ?_);unfold c7;intros;refine gR 0 0 c7r0.eq_1 ?_;try with_reducible exact True.intro
 intros;refine gR 18 19 c7r1.eq_1 ?_;try with_reducible exact True.intro
 (refine fK (hlive _ _) ?_;try with_reducible exact True.intro)
 intros;try refine dx ?_
 intros;try refine dx ?_
 intros;refine gR 19 21 c7r2.eq_1 ?_;try with_reducible exact True.intro
 refine(Ar l _ G hl0 _ _).mono ?_;rintro r h' ⟨⟨b1,rfl,hb1⟩,rfl⟩;cases b1 with
 | false =>
  (refine sI ?_;try with_reducible exact True.intro)
  intros;refine gC ?_;try with_reducible exact True.intro
  intros;refine gR 22 23 c7r3.eq_1 ?_;try with_reducible exact True.intro
  intros;refine rV ?_;simp only[push_cast,Nat.reduceBEq]
 | true =>
 have hlen:=hb1 rfl
 (refine sI ?_;try with_reducible exact True.intro)
 intros;refine gC ?_;try with_reducible exact True.intro
 intros;refine gN ?_;intros;try refine dx ?_
 intros;refine gR 23 29 c7r4.eq_1 ?_;try with_reducible exact True.intro
 refine(Gn n G _ _).mono ?_;rintro r h' ⟨G1,rfl,hg1,K,⟨hK1,hK5⟩,hv⟩;have hv0:=hv;obtain⟨A1,c1,rfl,-⟩:=hv;have hnew:(sM (uf K) 4096 1).2=0:=by
  unfold sM;rw[if_pos ⟨by rw[Bm],zR hK1 hK5,by rw[lq];exact hK5,by decide,by rw[lq];omega⟩]
 (refine sI ?_;try with_reducible exact True.intro)
 refine(vI (uf K) 4096 1 _ G1 hv0 (by rw[lq];omega) (by unfold I64;decide) _ _).mono ?_;rintro r h' ⟨G2,rfl,hg2,cs2,rfl,hpe2⟩;have hinv:=C1 hnew;generalize sM (uf K) 4096 1=q at *;obtain⟨p,e0⟩:=q;dsimp only at hnew hpe2 hinv ⊢;subst hnew;have hpe20:=hpe2;obtain⟨A2,c2,B2,d2,rfl,-⟩:=hpe2;unfold d7 at hpe20 ⊢
 (refine sI ?_;try with_reducible exact True.intro)
 intros;try refine dx ?_
 intros;refine gR 29 32 c7r5.eq_1 ?_;try with_reducible exact True.intro
 refine(tO l p 0 _ _ G2 hpe20 hinv (by omega) (hl0.le (hg1.trans hg2) fun _ _ h=>DE.le (hg1.trans hg2) h) _ _).mono ?_;rintro r h' ⟨G3,rfl,hg3,cs3,rfl,hpe3⟩;have hinva:=nh l hinv;generalize jU p l=a at *;have hpe30:=hpe3;obtain⟨A3,c3,B3,d3,rfl,-⟩:=hpe3;unfold d7 at hpe30 ⊢
 (refine sI ?_;try with_reducible exact True.intro)
 intros;try refine dx ?_
 intros;refine gR 32 38 c7r6.eq_1 ?_;try with_reducible exact True.intro
 refine(oB a _ id G3 hpe30 (hinva.sm (by omega)) hid (.inl I0) _ _).mono ?_;rintro r h' ⟨G4,rfl,hg4,cs4,rfl,hpe4⟩;by_cases he:(ofP a id (fW id)).2=0;rotate_left
 ·have hx:(ofP a id (fW id)).1=iz:=by
   rcases hO a id (fW id)with h | ⟨-,k,r,-,-,-,-,h⟩
   ·exact h.2
   ·exact absurd (by rw[h]) he
  rw[hx]at hpe4;have hne:=decide_eq_true (p:=(ofP a id (fW id)).2≠0) he;obtain⟨A4,c4,B4,d4,rfl,-⟩:=hpe4;unfold d7 iz
  (refine sI ?_;try with_reducible exact True.intro)
  intros;try refine dx ?_
  intros;try refine dx ?_
  intros;refine gr 38 43 ?_;(refine sJ3 c7r7.eq_1 @dn0 @hne ?_;try with_reducible exact True.intro)
  (refine sJ @hne ?_;try with_reducible exact True.intro)
  intros;refine gC ?_;try with_reducible exact True.intro
  intros;refine gR 44 55 c7r8.eq_1 ?_;try with_reducible exact True.intro
  intros;refine rV ?_;simp only[push_cast,Nat.reduceBEq]
 obtain⟨x,lg,e1,hokx,e2,e3,e4,e5⟩:=zv hinva he;have hinvx:Inv (0+l.length+1) x:=by
  have h1:kB a ⟨1,id,0,exB⟩=x:=by
   have:jk a ⟨1,id,0,exB⟩=(x,0):=e1;rw[kB,this,if_pos rfl]
  have:=tc hinva (d:=⟨1,id,0,exB⟩) rfl
  rwa [h1]at this
 have hsx:=hinvx.sm (by omega);rw[e1]at hpe4 ⊢;dsimp only at hpe4 ⊢;have hpe40:=hpe4;obtain⟨A4,c4,B4,d4,rfl,-,hv4,-⟩:=hpe4;unfold d7 at hpe40 ⊢
 (refine sI ?_;try with_reducible exact True.intro)
 intros;try refine dx ?_
 intros;try refine dx ?_
 intros;refine gR2 38 43 c7r7.eq_1 @dn0 ?_;try with_reducible exact True.intro
 (refine sJ @dn0 ?_;try with_reducible exact True.intro)
 intros;refine gC ?_;try with_reducible exact True.intro
 intros;refine gN ?_;intros;try refine dx ?_
 intros;refine gR 55 61 c7r9.eq_1 ?_;try with_reducible exact True.intro
 refine(oB x _ id G4 hpe40 hsx hid (.inl I0) _ _).mono ?_;rintro r h' ⟨G5,rfl,hg5,cs5,rfl,hpe5⟩;rw[e2]at hpe5 ⊢;dsimp only at hpe5 ⊢;have hpe50:=hpe5;obtain⟨A5,c5,B5,d5,rfl,-⟩:=hpe5;unfold d7 at hpe50 ⊢
 (refine sI ?_;try with_reducible exact True.intro)
 intros;try refine dx ?_
 intros;refine gR 61 66 c7r10.eq_1 ?_;try with_reducible exact True.intro
 refine(xV x _ G5 (hpe40.le hg5) hsx _ _).mono ?_;rintro r h' ⟨G6,rfl,hg6,cs6,rfl,hle6⟩;rw[e3]at hle6 ⊢;dsimp only at hle6 ⊢;have hls:smL lg.segs:=by
  have:=CM hsx;rw[e3]at this;exact this.1
 have hle60:=hle6;obtain⟨A6,c6,rfl,-⟩:=hle6;unfold es at hle60 ⊢;have hsame:=zV x _ _ G6 (hpe40.le (hg5.trans hg6)) (hpe50.le hg6);have hv4:=SlR.le (hg5.trans hg6) hv4;obtain⟨_,_,he4,hd4,hmd4,-⟩:=_root_.id hv4;cases he4
 (refine sI ?_;try with_reducible exact True.intro)
 intros;try refine dx ?_
 intros;try refine dx ?_
 intros;refine gR2 66 77 c7r11.eq_1 @dn0 ?_;try with_reducible exact True.intro
 (refine sJ @dn0 ?_;try with_reducible exact True.intro)
 (refine fK (hsame _ _) ?_;try with_reducible exact True.intro)
 intros;refine gC ?_;try with_reducible exact True.intro
 intros;refine gN ?_;intros;try refine dx ?_
 refine ez (fun e h=>∃ G',Gle G6 G'∧e 2=.int .i64 id∧e 7=.bool true∧h=⟨G',[.reg 15 [.int .i64 lg.limit,.int .i64 lg.start,.slice A6 lg.segs.length c6],.reg 13 [.int .i64 x.epoch,.int .i64 x.leader,.int .i64 x.least,.slice A5 x.isr.length c5,.slice B5 x.reps.length d5],.reg 11 [.int .i64 x.epoch,.int .i64 x.leader,.int .i64 x.least,.slice A4 x.isr.length c4,.slice B4 x.reps.length d4],.reg 10 [.int .i64 a.epoch,.int .i64 a.leader,.int .i64 a.least,.slice A3 a.isr.length c3,.slice B3 a.reps.length d3],.reg 8 [.int .i64 p.epoch,.int .i64 p.leader,.int .i64 p.least,.slice A2 p.isr.length c2,.slice B2 p.reps.length d2]],[]⟩) ?_ ?_
 ·intros;try refine dx ?_
  intros;refine gR 0 0 c7r13.eq_1 ?_;try with_reducible exact True.intro
  intros;refine dy ?_
  refine dV (fun e h=>∃ (k:Nat) (G':J5),(k≤x.reps.length∧Gle G6 G')∧e 17=.int .i64 k∧e 2=.int .i64 id∧e 7=.bool true∧h=⟨G',[.reg 15 [.int .i64 lg.limit,.int .i64 lg.start,.slice A6 lg.segs.length c6],.reg 13 [.int .i64 x.epoch,.int .i64 x.leader,.int .i64 x.least,.slice A5 x.isr.length c5,.slice B5 x.reps.length d5],.reg 11 [.int .i64 x.epoch,.int .i64 x.leader,.int .i64 x.least,.slice A4 x.isr.length c4,.slice B4 x.reps.length d4],.reg 10 [.int .i64 a.epoch,.int .i64 a.leader,.int .i64 a.least,.slice A3 a.isr.length c3,.slice B3 a.reps.length d3],.reg 8 [.int .i64 p.epoch,.int .i64 p.leader,.int .i64 p.least,.slice A2 p.isr.length c2,.slice B2 p.reps.length d2]],[]⟩) (fun e h=>x.reps.length - iv (e 17)) ?_ ?_
  ·exact⟨0,G6,⟨Nat.zero_le _,.refl _⟩,eE,eE,eE,rfl⟩
  rintro e h ⟨k,G',⟨hk,hg⟩,e17,e2,e7,rfl⟩;refine dC [2,7,17] ?_
  (refine sJ3 @e2 @e7 @e17 ?_;try with_reducible exact True.intro)
  intros;refine gR 78 82 c7r14.eq_1 ?_;try with_reducible exact True.intro
  intros;refine gC ?_;try with_reducible exact True.intro
  refine gb (fun k1=>?_) (fun k1=>?_)
  ·have k1:k < x.reps.length:=by have:=Kn k1;omega
   have hw:=fi k d4 (by omega) hmd4;obtain⟨s,hs⟩:∃ s,x.reps[k]?=some s:=⟨x.reps[k],getElem?_eq_getElem (by omega)⟩;have hv:=SlR.le hg hv4;obtain⟨_,_,he5,-,-,hB⟩:=_root_.id hv;cases he5;intros;refine gN ?_;intros;try refine dx ?_
   intros;refine dy ?_;refine nP _ Kl (by decide) ?_;(refine sJ c7r15.eq_1 ?_;try with_reducible exact True.intro);refine hB.y_lf (k:=k) (u:=.int .i64 s.id) hs rfl rfl (fun cs h=>by obtain⟨_,_,_,_,rfl,-⟩:=h;rfl) fun a1 ha1=>?_
   (refine sI ?_;try with_reducible exact True.intro)
   refine gx (fun k2=>?_) (fun k2=>?_)
   ·have k2:=Kn k2;have hall:=e5 k s hs k2
    (refine sI ?_;try with_reducible exact True.intro)
    refine JH hv hs rfl (by omega) rfl ?_;rintro a2 ha2 A8 c8 hle8;have hal:=sY s.log _ G' hle8 (hsx.1 s (mem_of_getElem? hs)).1;unfold es at hal ⊢
    (refine sI ?_;try with_reducible exact True.intro)
    refine(hal _ _).mono ?_;rintro v7 h' ⟨G7,rfl,hg7,hv7⟩;refine⟨j9 hg7,?_⟩
    (refine sI ?_;try with_reducible exact True.intro)
    refine(sY lg _ G7 (LE.le (hg.trans hg7) hle60) hls _ _).mono ?_;rintro v8 h' ⟨G8,rfl,hg8,hv8⟩;have hg78:=hg7.trans hg8;refine⟨j9 hg78,?_⟩;have hsa:=uv _ _ _ _ G8 (hv7.le (E':=BE G8) hg8 fun _ _ h=>BE.le hg8 h) hv8;rw[decide_eq_true hall]at hsa
    (refine sI ?_;try with_reducible exact True.intro)
    (refine fK (hsa _ _) ?_;try with_reducible exact True.intro)
    refine⟨j9 hg78,?_⟩
    (refine sI ?_;try with_reducible exact True.intro)
    intros;refine gC ?_;try with_reducible exact True.intro
    intros;refine gN ?_;intros;refine gR2 83 85 c7r17.eq_1 @hw ?_;try with_reducible exact True.intro
    intros;refine dy ?_;refine ej ⟨⟨k+1,G8,⟨by omega,hg.trans hg78⟩,eE,eE,eE,rfl⟩,?_⟩
    (refine sI ?_;try with_reducible exact True.intro)
    omega
   ·(refine sI ?_;try with_reducible exact True.intro)
    intros;refine gC ?_;try with_reducible exact True.intro
    intros;refine gN ?_;intros;refine gR2 83 85 c7r17.eq_1 @hw ?_;try with_reducible exact True.intro
    intros;refine dy ?_;refine ej ⟨⟨k+1,G',⟨by omega,hg⟩,eE,eE,eE,rfl⟩,?_⟩
    (refine sI ?_;try with_reducible exact True.intro)
    omega
  ·have k1:k=x.reps.length:=by have:=Ko k1;omega
   subst k1;intros;refine gN ?_;refine dS ?_
   (refine sI ?_;try with_reducible exact True.intro)
   exact ej ⟨G',hg,eE,eE,rfl⟩
 rintro e h ⟨G',hg,e2,e7,rfl⟩;refine dC [2,7] ?_
 (refine sJ2 @e2 @e7 ?_;try with_reducible exact True.intro)
 intros;have hin:=FY x id _ G' (hpe40.le (hg5.trans (hg6.trans hg)));rw[decide_eq_true e4]at hin;intros;refine gR 106 112 c7r18.eq_1 ?_;try with_reducible exact True.intro
 (refine fK (hin _ _) ?_;try with_reducible exact True.intro)
 intros;refine rV ?_;simp only[push_cast,Nat.reduceBEq]
end Go.Proofs.YtpmofpekcbghnaaGreat

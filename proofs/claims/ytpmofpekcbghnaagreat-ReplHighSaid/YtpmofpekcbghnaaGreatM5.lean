/- Parts of a proof, 35 texts in one file. No condition. -/
import Derived.Test.YtpmofpekcbghnaaGreatRows
import Derived.WalkKit
import Derived.ProofKit
import Derived.OpenShut
import Derived.ShutString
import Derived.ChangeOld
import Derived.ChangeSame
import Derived.Below
import Derived.Test.YtpmofpekcbghnaaGreatM1
import Derived.Test.YtpmofpekcbghnaaGreatM2
import Derived.Test.YtpmofpekcbghnaaGreatM3
import Derived.Test.YtpmofpekcbghnaaGreatM4
set_option linter.unusedSimpArgs false
set_option linter.unusedVariables false
namespace Go.Proofs.YtpmofpekcbghnaaGreat
open Go Go.Kx Go.ChangeShapes Go.WideShapes Go.ChangeAt Go.RowKit
theorem own:ownKnob Tryz.prog.godebug=none:=by kernel_rfl
theorem xg:laidOutB Tryz.prog=true:=by kernel_rfl
theorem ut(W:World):fR Tryz.prog W 103 RR:=fun H enc fuel cs x hx=>by
 obtain⟨hl,hf⟩:=gj Tryz.underlying103 (by kernel_rfl) (by kernel_rfl) hx;obtain⟨v0,_,_,c0,t0⟩:=hf 0 _ rfl;obtain⟨v1,_,_,c1,t1⟩:=hf 1 _ rfl;obtain⟨v2,_,_,c2,t2⟩:=hf 2 _ rfl;obtain⟨v3,_,_,c3,t3⟩:=hf 3 _ rfl;obtain⟨v4,_,_,c4,t4⟩:=hf 4 _ rfl;obtain⟨n0,e0,w0⟩:=(eb Tryz.underlying3).at_ t0;obtain⟨n1,e1,w1⟩:=(lV Tryz.underlying9).at_ t1;obtain⟨n2,e2,w2⟩:=(lV Tryz.underlying9).at_ t2
 obtain⟨n3,e3⟩:=(lv Tryz.underlying4).at_ t3;obtain⟨n4,e4,w4⟩:=(eb Tryz.underlying3).at_ t4;cases e0;cases e1;cases e2;cases e3;cases e4;refine⟨⟨n0,n1,n2,n3,n4⟩,?_,⟨fx w0,fx w4⟩,w1,w2⟩
 match cs,hl with
 | [_,_,_,_,_],_=>cases c0;cases c1;cases c2;cases c3;cases c4;rfl
theorem tN(W:World):fR Tryz.prog W 41 (fun(l:List Rec) cs=>∃ A c,cs=[.slice A l.length c]∧l.length≤c∧c≤maxLen∧SlA (m9 W) RR 5 A l) :=
 gC Tryz.underlying41 (by kernel_rfl) (ut W)
theorem rk(W:World):fR Tryz.prog W 43 (BE (m9 W)):=fun H enc fuel cs x hx=>by
 obtain⟨hl,hf⟩:=gj Tryz.underlying43 (by kernel_rfl) (by kernel_rfl) hx;obtain⟨v0,_,_,c0,t0⟩:=hf 0 _ rfl;obtain⟨v1,_,_,c1,t1⟩:=hf 1 _ rfl;obtain⟨v2,_,_,c2,t2⟩:=hf 2 _ rfl;obtain⟨v3,_,_,c3,t3⟩:=hf 3 _ rfl;obtain⟨v4,_,_,c4,t4⟩:=hf 4 _ rfl;obtain⟨v5,_,_,c5,t5⟩:=hf 5 _ rfl;obtain⟨v6,_,_,c6,t6⟩:=hf 6 _ rfl;obtain⟨v7,_,_,c7,t7⟩:=hf 7 _ rfl;obtain⟨v8,_,_,c8,t8⟩:=hf 8 _ rfl
 obtain⟨v9,_,_,c9,t9⟩:=hf 9 _ rfl;obtain⟨n0,e0,w0⟩:=(eb Tryz.underlying3).at_ t0;obtain⟨n1,e1,w1⟩:=(eb Tryz.underlying3).at_ t1;obtain⟨n2,e2,w2⟩:=(eb Tryz.underlying3).at_ t2;obtain⟨n3,e3,w3⟩:=(eb Tryz.underlying3).at_ t3;obtain⟨n4,e4,w4⟩:=(eb Tryz.underlying3).at_ t4;obtain⟨n5,e5,w5⟩:=(eb Tryz.underlying3).at_ t5;obtain⟨n6,e6,w6⟩:=(eb Tryz.underlying3).at_ t6
 obtain⟨n7,e7⟩:=(lv Tryz.underlying4).at_ t7;obtain⟨n8,e8,w8⟩:=(eb Tryz.underlying3).at_ t8;obtain⟨n9,A,c,e9,w9⟩:=(tN W).at_ t9;cases e0;cases e1;cases e2;cases e3;cases e4;cases e5;cases e6;cases e7;cases e8;cases e9;refine⟨⟨n0,n1,n2,n3,n4,n5,n6,n7,n8,n9⟩,A,c,?_,w9,fx w0,fx w1,fx w2,fx w3,fx w4,fx w5,fx w6,fx w8⟩
 match cs,hl with
 | [_,_,_,_,_,_,_,_,_,_],_=>cases c0;cases c1;cases c2;cases c3;cases c4;cases c5;cases c6;cases c7;cases c8;cases c9;rfl
theorem tu(W:World):fR Tryz.prog W 5 UE:=(eb Tryz.underlying5).mono fun n cs ⟨h1,h2⟩=>⟨UInt8.ofNat n.toNat,by rw[UE,← FN h2];exact h1⟩
theorem rm(W:World):fR Tryz.prog W 118 (fun(l:List UInt8) cs=>∃ A c,cs=[.slice A l.length c]∧l.length≤c∧c≤maxLen∧SlA (m9 W) UE 1 A l) :=
 gC Tryz.underlying118 (by kernel_rfl) (tu W)
end Go.Proofs.YtpmofpekcbghnaaGreat
namespace Go.Proofs.YtpmofpekcbghnaaGreat
open Go Go.Kx
theorem F210:Fun Tryz.prog 210 11 v210 c210 o210:=Fun.mkA Tryz.func210 Tryz.ntmps210
theorem F196:Fun Tryz.prog 196 44 v196 c196 o196:=Fun.mkA Tryz.func196 Tryz.ntmps196
theorem F226:Fun Tryz.prog 226 25 v226 c226 o226:=Fun.mkA Tryz.func226 Tryz.ntmps226
theorem lI{a:Nat}(ha:a < 18446744073709551616):(BitVec.ofInt 64 (a:Int)).toNat=a:=by
 rw[BitVec.ofInt_natCast,BitVec.toNat_ofNat];exact Nat.mod_eq_of_lt ha
theorem nL{a:Nat}(ha:a < 18446744073709551616):IntKind.u64.wrap (a:Int)=(a:Int):=by
 rw[IntKind.wrap_u64];omega
theorem uy{a b:Nat}(ha:a < 18446744073709551616)(hb:b < 18446744073709551616):eZ .and (.int .u64 (a:Int)) (.int .u64 (b:Int))=some (.int .u64 ((a &&& b:Nat):Int)):=by
 simp only[eZ];rw[if_pos trivial];have:(BitVec.ofInt IntKind.u64.bits (a:Int) &&& BitVec.ofInt IntKind.u64.bits (b:Int)).toNat=a &&& b:=by
  show(BitVec.ofInt 64 (a:Int) &&& BitVec.ofInt 64 (b:Int)).toNat=_;rw[BitVec.toNat_and,lI ha,lI hb]
 rw[this,nL (Nat.lt_of_le_of_lt Nat.and_le_left ha)]
theorem rY{a b:Nat}(ha:a < 18446744073709551616)(hb:b < 18446744073709551616):eZ .or (.int .u64 (a:Int)) (.int .u64 (b:Int))=some (.int .u64 ((a ||| b:Nat):Int)):=by
 simp only[eZ];rw[if_pos trivial];have:(BitVec.ofInt IntKind.u64.bits (a:Int) ||| BitVec.ofInt IntKind.u64.bits (b:Int)).toNat=a ||| b:=by
  show(BitVec.ofInt 64 (a:Int) ||| BitVec.ofInt 64 (b:Int)).toNat=_
  rw[BitVec.toNat_or,lI ha,lI hb]
 rw[this,nL];exact Nat.or_lt_two_pow (n:=64) ha hb
theorem pC{a s:Nat}(hs:s≤64)(h:a * 2 ^ s < 18446744073709551616)(k:IntKind):eZ .shl (.int .u64 (a:Int)) (.int k (s:Int))=some (.int .u64 ((a * 2 ^ s:Nat):Int)):=by
 simp only[eZ];rw[if_pos (by omega)];have h1:min ((s:Int)).toNat IntKind.u64.bits=s:=by simp[IntKind.bits];omega
 rw[h1];have h2:(a:Int) * 2 ^ s=((a * 2 ^ s:Nat):Int):=by push_cast;rfl
 rw[h2,nL h]
theorem sC{a b n:Nat}(hb:b < 2 ^ n):a * 2 ^ n ||| b=a * 2 ^ n+b:=by
 rw[Nat.mul_comm];exact(Nat.two_pow_add_eq_or_of_lt hb a).symm
theorem Bf(x:UInt8):eZ .and (.int .u8 (x.toNat:Int)) (.int .u8 127)=some (.int .u8 ((x.toNat % 128:Nat):Int)):=by
 have key:∀ b:Fin 256,(BitVec.ofInt 8 ((b.val:Nat):Int) &&& BitVec.ofInt 8 127).toNat=b.val % 128:=by decide +kernel
 have h2:=key ⟨x.toNat,x.toNat_lt⟩;simp only[eZ];rw[if_pos trivial];have h3:(BitVec.ofInt IntKind.u8.bits (x.toNat:Int) &&& BitVec.ofInt IntKind.u8.bits 127).toNat=x.toNat % 128:=h2;rw[h3,IntKind.wrap_u8];congr 2;omega
theorem F3(x:Nat)(hx:x < 256):IntKind.u64.wrap (x:Int)=(x:Int):=nL (by omega)
theorem zE{α:Type}{E:α→List Value→Prop}{G:Nat→Option Obj}{sz:Nat}{P:Program}{d:Nat}{l:List SI}{e:Env}{h:H}{K:Env→H→Prop}{A:Option Addr}{n c:Nat}{xs:List α}{lw u m:Int}(lo hi mx:Nat)(hl:SlV G E sz (.slice A n c) xs)(h1:lw=lo)(h2:u=hi)(h3:m=mx)
  (h4:lo≤hi∧hi≤xs.length∧hi≤mx∧mx≤c) (hk:∀ B,SlV G E sz (.slice B ((xs.take hi).drop lo).length (mx - lo)) ((xs.take hi).drop lo)→kR P l d e K (.slice B ((xs.take hi).drop lo).length (mx - lo)) h):slY P A c (some lw) (some u) (some m) sz d l e h K:=by
 subst h1 h2 h3;obtain⟨A',c',he,hc,hm,hA⟩:=hl;cases he;have hlen:((xs.take hi).drop lo).length=hi - lo:=by simp;omega
 refine⟨by omega,?_⟩;have:=hk (if ((mx:Nat):Int).toNat=((lo:Nat):Int).toNat then A else A.map (·.add (((lo:Nat):Int).toNat * sz))) ⟨_,_,rfl,by omega,by omega,?_⟩
 ·rw[hlen]at this;simpa using this
 ·refine hA.cut (by omega) fun hlt=>?_
  rw[if_neg (by simp;omega)];simp
theorem SlV.pre{α:Type}{E:α→List Value→Prop}{G:Nat→Option Obj}{sz:Nat}{A:Option Addr}{n c:Nat}{xs:List α}(hi:Nat)(hl:SlV G E sz (.slice A n c) xs)(h:hi≤xs.length):SlV G E sz (.slice A hi c) (xs.take hi):=by
 obtain⟨A',c',he,hc,hm,hA⟩:=hl;cases he;have hlen:(xs.take hi).length=hi:=by simp;omega
 refine⟨A,c,by rw[hlen],by omega,hm,?_⟩;have:=hA.cut (l:=0) (n:=hi) (B:=A) h fun _=>by cases A <;> simp[Addr.add]
 simpa using this
def lL(l:List UInt8):Nat:=l.foldl (fun n x=>n * 256+x.toNat) 0
theorem xz:∀ (l:List UInt8) (n k:Nat),n < 256 ^ k→l.foldl (fun n x=>n * 256+x.toNat) n < 256 ^ (k+l.length)
 | [],n,k,h=>by simpa using h
 | x :: l,n,k,h=>by
  have hx:=x.toNat_lt;have:=xz l (n * 256+x.toNat) (k+1) (by rw[Nat.pow_succ];omega);rw[List.foldl_cons,List.length_cons,show k+(l.length+1)=k+1+l.length by omega];exact this
theorem uO(l:List UInt8):lL l < 256 ^ l.length:=by
 have:=xz l 0 0 (by simp);simpa [lL]using this
theorem vB{l:List UInt8}{k:Nat}{x:UInt8}(hx:l[k]?=some x):lL (l.take (k+1))=lL (l.take k) * 256+x.toNat:=by
 have h:=List.getElem?_eq_some_iff.1 hx;rw[List.take_succ_eq_append_getElem h.1,h.2];simp[lL]
theorem DK{l:List UInt8}(h:l.length≤7):lL l < 72057594037927936:=by
 have:=uO l;have h2:256 ^ l.length≤256 ^ 7:=Nat.pow_le_pow_right (by decide) h;omega
def jk(l:List UInt8)(a:Int)(k:Nat):Nat × Int:=if a < 0 then(0,1)else if (l.drop a.toNat).length < k then(0,10)else(lL ((l.drop a.toNat).take k),0)
theorem vZ(l:List UInt8)(a:Nat)(v:Value)(G:Nat→Option Obj)(hl:SB G v l):FnE Tryz.prog 210 #[v,.int .i64 (a:Int)] G (fun r=>SB G r (l.drop a)):=by
 obtain⟨A,c,rfl,hA⟩:=id hl;refine F210.fnE (by simp) (dF ?_);unfold c210;intros;refine gr 0 0 ?_;refine sJ c210r0.eq_1 ?_;have hmin:min (a:Int) l.length=((min a l.length:Nat):Int):=by omega
 intros;refine gr 5 11 ?_;refine sJ2 c210r1.eq_1 @hmin ?_;refine zE (min a l.length) l.length c hl rfl rfl rfl (by have:=hA.1;omega) fun B hB=>?_
 have he:(l.take l.length).drop (min a l.length)=l.drop a:=by
  rw[List.take_length];by_cases h:a≤l.length
  ·rw[Nat.min_eq_left h]
  ·rw[Nat.min_eq_right (by omega),List.drop_length,List.drop_of_length_le (by omega)]
 rw[he]at hB ⊢;refine sI ?_;intros;refine rV ?_;simp only[push_cast,Nat.reduceBEq];exact hB
theorem yB{l:List UInt8}{a:Int}{k:Nat}(h:a < 0):jk l a k=(0,1):=if_pos h
theorem ka(l:List UInt8)(a k:Nat):jk l (a:Int) k=if (l.drop a).length < k then(0,10)else(lL ((l.drop a).take k),0):=by
 rw[jk,if_neg (by omega)];rfl
theorem wk(l:List UInt8)(a:Int)(k:Nat)(hk:1≤k∧k≤8)(v:Value)(G:Nat→Option Obj)(hl:SB G v l):
  FnS Tryz.prog 196 #[v,.int .i64 a,.int .i64 (k:Int)] G (.tuple #[.int .u64 ((jk l a k).1:Int),.int .i64 (jk l a k).2]):=by
 obtain⟨A,c,rfl,hA⟩:=id hl;refine F196.fnS (by simp) (dF ?_);unfold c196;intros;refine gr 0 0 ?_;refine sJ c196r0.eq_1 ?_;intros;refine gr 12 21 ?_;refine sJ c196r1.eq_1 ?_;refine gd (fun h1=>absurd (of_decide_eq_true h1) (by omega)) (fun h1=>?_);refine sI ?_;have h2:decide ((8:Int) < (k:Int))=false:=decide_eq_false (by omega);refine sJ @h2 ?_;intros;refine gc ?_;refine sI ?_
 refine gb (fun h3=>?_) (fun h3=>?_)
 ·have h3:=of_decide_eq_true h3;intros;refine gr 0 0 ?_;refine sJ c196r2.eq_1 ?_;intros;refine rV ?_;simp only[push_cast,Nat.reduceBEq];rw[yB h3];rfl
 have h3:=of_decide_eq_false h3;obtain⟨a,rfl⟩:∃ n:Nat,a=n:=⟨a.toNat,by omega⟩;rw[ka];intros;refine gN ?_;intros;refine gr 22 25 ?_;refine sJ c196r3.eq_1 ?_;refine(vZ l a _ G hl _ _).mono ?_;rintro r h' ⟨hr,rfl⟩;generalize l.drop a=m at hr ⊢;obtain⟨B,d,rfl,hB⟩:=id hr;refine sI ?_;intros;refine gr 25 28 ?_;refine sJ c196r4.eq_1 ?_;intros;refine gc ?_;refine sI ?_;refine gb (fun h4=>?_) (fun h4=>?_)
 ·have h4:=of_decide_eq_true h4;intros;refine gr 0 0 ?_;refine sJ c196r5.eq_1 ?_;intros;refine rV ?_;simp only[push_cast,Nat.reduceBEq];rw[if_pos (by omega)];rfl
 have h4:=of_decide_eq_false h4;rw[if_neg (by omega)];intros;refine gN ?_;intros;refine gr 0 0 ?_;refine sJ c196r6.eq_1 ?_;intros;refine gr 29 31 ?_;refine sJ c196r7.eq_1 ?_;refine⟨by have:=hB.1;omega,?_⟩
 (intros;try refine du ?_)
 have hC:=SlV.pre k hr (by omega);generalize hm:m.take k=x at hC ⊢;have hxl:x.length=k:=by rw[← hm];simp;omega
 obtain⟨B',d',he,hd',hm',hC⟩:=hC;cases he;refine dW (fun e h=>∃ (i:Nat),i≤x.length∧e 33=.int .i64 i∧e 32=.int .i64 x.length∧e 31=.slice B x.length d∧e 9=.int .u64 (lL (x.take i):Int)∧h=⟨G,[],[]⟩) (fun e h=>x.length - iv (e 33)) ?_ ?_
 ·exact⟨0,Nat.zero_le _,eE,eE,eE,by refine sI ?_;rfl,rfl⟩
 ·rintro e h ⟨i,hi,e33,e32,e31,e9,rfl⟩;refine dz [9,31,32,33] ?_;refine sJ4 @e9 @e31 @e32 @e33 ?_;intros;refine gr 0 0 ?_;refine sJ c196r8.eq_1 ?_;intros;refine gc ?_;refine sI ?_;refine gb (fun ht=>?_) (fun ht=>?_)
  ·have ht:i < x.length:=by simpa using ht
   obtain⟨y,hy⟩:∃ y,x[i]?=some y:=⟨x[i],List.getElem?_eq_getElem (by omega)⟩;have hw:=fz i x.length ht (by unfold maxLen;omega);have h7:lL (x.take i) < 72057594037927936:=DK (by simp;omega);have hyl:=y.toNat_lt;have hs:eZ .shl (.int .u64 (lL (x.take i):Int)) (.int .u64 8)=some (.int .u64 ((lL (x.take i) * 2 ^ 8:Nat):Int)):=pC (s:=8) (by omega) (by omega) .u64
   have ho:eZ .or (.int .u64 ((lL (x.take i) * 2 ^ 8:Nat):Int)) (.int .u64 (y.toNat:Int))=some (.int .u64 (lL (x.take (i+1)):Int)):=by
    rw[rY (by omega) (by omega),sC (n:=8) (by omega),vB hy]
   generalize hq:lL (x.take i) * 2 ^ 8=q at hs ho;intros;refine gN ?_;intros;refine gr 35 37 ?_;refine sJ c196r9.eq_1 ?_;refine hC.x_l1 hy rfl rfl ?_;rintro a1 ha1 u hu;cases hu;refine sI ?_;intros;refine gr 37 42 ?_;(refine sJ4 c196r10.eq_1 @hs (F3 y.toNat hyl) @ho ?_);intros;refine gr 42 43 ?_;refine sJ2 c196r11.eq_1 @hw ?_
   (intros;try refine du ?_)
   refine eh ⟨⟨i+1,by omega,eE,eE,eE,eE,rfl⟩,?_⟩;refine sI ?_;omega
  ·have ht:i=x.length:=by simp at ht;omega
   subst ht;refine dT ?_;refine sI ?_;intros;refine gr 43 44 ?_;refine sJ c196r12.eq_1 ?_;intros;refine rV ?_;simp only[push_cast,Nat.reduceBEq];rw[List.take_of_length_le (by omega)]
def sn(l:List UInt8)(a:Nat):Bool × Int × Int:=match l[a]? with
 | none=>(false,0,10)
 | some x=>if 1 < x.toNat then(false,0,11)else(decide (x.toNat=1),a+1,0)
theorem Cj(l:List UInt8)(a:Nat)(v:Value)(G:Nat→Option Obj)(hl:SB G v l):
  FnS Tryz.prog 226 #[v,.int .i64 (a:Int)] G (.tuple #[.bool (sn l a).1,.int .i64 (sn l a).2.1,.int .i64 (sn l a).2.2]):=by
 obtain⟨A,c,rfl,hc,hm,hA⟩:=id hl;refine F226.fnS (by simp) (dF ?_);unfold c226;intros;refine gr 0 0 ?_;refine sJ c226r0.eq_1 ?_;intros;refine gr 8 12 ?_;refine sJ c226r1.eq_1 ?_;intros;refine gc ?_;refine sI ?_;refine gb (fun h1=>?_) (fun h1=>?_)
 ·have h1:=of_decide_eq_true h1;intros;refine gr 0 0 ?_;refine sJ c226r2.eq_1 ?_;intros;refine rV ?_;simp only[push_cast,Nat.reduceBEq];rw[sn,List.getElem?_eq_none (by omega)]
 have h1:=of_decide_eq_false h1;obtain⟨y,hy⟩:∃ y,l[a]?=some y:=⟨l[a]'(by omega),List.getElem?_eq_getElem _⟩;rw[sn,hy];dsimp only;intros;refine gr 13 18 ?_;refine sJ c226r3.eq_1 ?_;refine hA.x_l1 hy rfl rfl ?_;rintro a1 ha1 u hu;cases hu;refine sI ?_;intros;refine gc ?_;refine sI ?_;refine gb (fun h2=>?_) (fun h2=>?_)
 ·have h2:=of_decide_eq_true h2;intros;refine gr 0 0 ?_;refine sJ c226r4.eq_1 ?_;intros;refine rV ?_;simp only[push_cast,Nat.reduceBEq];rw[if_pos (by omega)]
 have h2:=of_decide_eq_false h2;rw[if_neg (by omega)];have hw:=fz a l.length (by omega) (by omega);intros;refine gN ?_;intros;refine gr 18 25 ?_;refine sJ2 c226r5.eq_1 @hw ?_;refine hA.x_l1 hy rfl rfl ?_;rintro a1 ha1 u hu;cases hu;refine sJ @hw ?_;intros;refine rV ?_;simp only[push_cast,Nat.reduceBEq];congr 3;simp;omega
theorem F213:Fun Tryz.prog 213 58 v213 c213 o213:=Fun.mkA Tryz.func213 Tryz.ntmps213
theorem F222:Fun Tryz.prog 222 45 v222 c222 o222:=Fun.mkA Tryz.func222 Tryz.ntmps222
def gvL:Nat→Nat→List UInt8→Int × Nat × Nat
 | _,_,[]=>(10,0,0)
 | i,z,x :: xs=>if (i=9∧1 < x.toNat)∨(0 < i∧x.toNat=0)then(11,0,0)else if x.toNat < 128 then(0,z+128 ^ i * (x.toNat % 128),i+1)else gvL (i+1) (z+128 ^ i * (x.toNat % 128)) xs
def zag(z:Nat):Int:=if z % 2=0 then((z / 2:Nat):Int)else -((z / 2:Nat):Int) - 1
def fy(l:List UInt8)(a:Int):Int × Int × Int:=if a < 0 then(0,0,1)else if (gvL 0 0 (l.drop a.toNat)).1=0 then(zag (gvL 0 0 (l.drop a.toNat)).2.1,a+(gvL 0 0 (l.drop a.toNat)).2.2,0)else(0,0,(gvL 0 0 (l.drop a.toNat)).1)
theorem Cu(i z:Nat):gvL i z []=(10,0,0):=rfl
theorem qG{i z:Nat}{x:UInt8}{xs:List UInt8}(h:(i=9∧1 < x.toNat)∨(0 < i∧x.toNat=0)):gvL i z (x :: xs)=(11,0,0):=by rw[gvL,if_pos h]
theorem m6{i z:Nat}{x:UInt8}{xs:List UInt8}(h:¬ ((i=9∧1 < x.toNat)∨(0 < i∧x.toNat=0)))(h2:x.toNat < 128):gvL i z (x :: xs)=(0,z+128 ^ i * (x.toNat % 128),i+1):=by rw[gvL,if_neg h,if_pos h2]
theorem mp{i z:Nat}{x:UInt8}{xs:List UInt8}(h:¬ ((i=9∧1 < x.toNat)∨(0 < i∧x.toNat=0)))(h2:¬ x.toNat < 128):gvL i z (x :: xs)=gvL (i+1) (z+128 ^ i * (x.toNat % 128)) xs:=by rw[gvL,if_neg h,if_neg h2]
theorem Ho{i:Nat}(h:i≤8):128 ^ i≤72057594037927936:=by
 have:128 ^ i≤128 ^ 8:=Nat.pow_le_pow_right (by decide) h;omega
theorem vk{i z x:Nat}(hi:i≤9)(hz:z < 128 ^ i)(hx:¬ (i=9∧1 < x))(hx2:x < 256):128 ^ i * (x % 128) < 18446744073709551616∧z+128 ^ i * (x % 128) < 18446744073709551616∧(i≤8→z+128 ^ i * (x % 128) < 128 ^ (i+1)):=by
 have h128:x % 128≤127:=by omega
 have h1:128 ^ i * (x % 128)≤128 ^ i * 127:=Nat.mul_le_mul_left _ h128;have h3:128 ^ (i+1)=128 ^ i * 128:=Nat.pow_succ ..;by_cases h9:i=9
 ·subst h9;have:x≤1:=by omega
  have h4:128 ^ 9 * (x % 128)≤128 ^ 9 * 1:=Nat.mul_le_mul_left _ (by omega);omega
 ·have:=Ho (show i≤8 by omega);omega
theorem zM:∀ (m:List UInt8) (i z:Nat),i≤9→z < 128 ^ i→(gvL i z m).1=0→(gvL i z m).2.1 < 18446744073709551616∧i < (gvL i z m).2.2∧(gvL i z m).2.2≤i+m.length
 | [],i,z,_,_,h=>by simp[gvL]at h
 | x :: xs,i,z,hi,hz,h=>by
  by_cases h1:(i=9∧1 < x.toNat)∨(0 < i∧x.toNat=0)
  ·rw[qG h1]at h;cases h
  ·obtain⟨s1,s2,s3⟩:=vk hi hz (fun h=>h1 (.inl h)) x.toNat_lt;by_cases h2:x.toNat < 128
   ·rw[m6 h1 h2];exact⟨s2,by simp,by simp⟩
   ·have hi8:i≤8:=by omega
    rw[mp h1 h2]at h ⊢;obtain⟨a,b,c⟩:=zM xs (i+1) _ (by omega) (s3 hi8) h;refine⟨a,by omega,by simp;omega⟩
theorem He{z:Nat}(h:z < 18446744073709551616):I64 (zag z):=by
 unfold zag I64;split <;> omega
theorem BX{z:Nat}(hz:z < 18446744073709551616):eZ .xor (.int .i64 ((z / 2:Nat):Int)) (.int .i64 (IntKind.i64.wrap (0 - ((z % 2:Nat):Int))))=some (.int .i64 (zag z)):=by
 have key:IntKind.i64.wrap (((BitVec.ofInt 64 ((z / 2:Nat):Int) ^^^ BitVec.ofInt 64 (IntKind.i64.wrap (0 - ((z % 2:Nat):Int)))).toNat:Nat):Int)=zag z:=by
  by_cases h0:z % 2=0
  ·have e2:IntKind.i64.wrap (0 - ((z % 2:Nat):Int))=0:=by rw[h0];rfl
   rw[e2];have:BitVec.ofInt 64 0=0#64:=rfl;rw[this,BitVec.xor_zero,lI (by omega),zag,if_pos h0,dU];omega
  ·have e2:IntKind.i64.wrap (0 - ((z % 2:Nat):Int))=-1:=by rw[show z % 2=1 by omega];rfl
   rw[e2];have:BitVec.ofInt 64 (-1)=BitVec.allOnes 64:=by decide
   rw[this,BitVec.xor_allOnes,BitVec.toNat_not,lI (by omega),zag,if_neg h0,IntKind.wrap_i64];omega
 simp only[eZ];rw[if_pos trivial];exact congrArg (fun n=>some (Value.int .i64 n)) key
theorem qE(z:Nat):eZ .shr (.int .u64 (z:Int)) (.int .u64 1)=some (.int .u64 ((z / 2:Nat):Int)):=by
 simp[eZ,IntKind.bits];rw[Int.fdiv_eq_ediv_of_nonneg _ (by omega)]
theorem rA{z:Nat}(hz:z < 18446744073709551616):eZ .and (.int .u64 (z:Int)) (.int .u64 1)=some (.int .u64 ((z % 2:Nat):Int)):=by
 have:=uy (b:=1) hz (by omega);rw[Nat.and_one_is_mod]at this;exact this
theorem kN(l:List UInt8)(a:Int)(v:Value)(G:Nat→Option Obj)(hl:SB G v l):
  FnS Tryz.prog 213 #[v,.int .i64 a] G (.tuple #[.int .i64 (fy l a).1,.int .i64 (fy l a).2.1,.int .i64 (fy l a).2.2]):=by
 obtain⟨A,c,rfl,hc,hm,hA⟩:=id hl;unfold maxLen at hm;refine F213.fnS (by simp) (dF ?_);unfold c213;intros;refine gr 0 0 ?_;refine sJ c213r0.eq_1 ?_;intros;refine gr 10 11 ?_;refine sJ c213r1.eq_1 ?_;intros;refine gc ?_;refine sI ?_;refine gb (fun h1=>?_) (fun h1=>?_)
 ·have h1:=of_decide_eq_true h1;intros;refine gr 0 0 ?_;refine sJ c213r2.eq_1 ?_;intros;refine rV ?_;simp only[push_cast,Nat.reduceBEq];rw[fy,if_pos h1]
 have h1:=of_decide_eq_false h1;obtain⟨a,rfl⟩:∃ n:Nat,a=n:=⟨a.toNat,by omega⟩;have hgv:fy l (a:Int)=if (gvL 0 0 (l.drop a)).1=0 then(zag (gvL 0 0 (l.drop a)).2.1,(a:Int)+(gvL 0 0 (l.drop a)).2.2,0)else(0,0,(gvL 0 0 (l.drop a)).1):=by
  rw[fy,if_neg h1];rfl
 have hdl:a+(l.drop a).length≤l.length∨l.drop a=[]:=by
  by_cases h:a≤l.length
  ·left;simp;omega
  ·right;exact List.drop_of_length_le (by omega)
 rw[hgv];intros;refine gN ?_;intros;refine gr 0 0 ?_;refine sJ c213r3.eq_1 ?_;intros;refine gr 12 14 ?_;refine sJ c213r4.eq_1 ?_;refine(vZ l a _ G hl _ _).mono ?_;rintro r h' ⟨hr,rfl⟩;generalize hm0:l.drop a=m at hr hdl ⊢;obtain⟨B,d,rfl,hd,hdm,hB⟩:=hr;refine sI ?_
 (intros;try refine du ?_)
 refine dW (fun e h=>∃ (i z:Nat),(i≤m.length∧i≤9∧z < 128 ^ i∧gvL 0 0 m=gvL i z (m.drop i))∧e 16=.int .i64 i∧e 15=.int .i64 m.length∧e 14=.slice B m.length d∧e 7=.int .u64 (z:Int)∧e 1=.int .i64 (a:Int)∧h=⟨G,[],[]⟩) (fun e h=>m.length - iv (e 16)) ?_ ?_
 ·exact⟨0,0,⟨Nat.zero_le _,by omega,by simp,by simp⟩,eE,eE,eE,eE,eE,rfl⟩
 ·rintro e h ⟨i,z,⟨hi,hi9,hz,heq⟩,e16,e15,e14,e7,e1,rfl⟩;refine dz [1,7,14,15,16] ?_;refine sJ5 @e1 @e7 @e14 @e15 @e16 ?_;intros;refine gr 0 0 ?_;refine sJ c213r5.eq_1 ?_;intros;refine gc ?_;refine sI ?_;refine gb (fun ht=>?_) (fun ht=>?_)
  ·have ht:i < m.length:=by simpa using ht
   have hal:a+m.length≤l.length:=by
    rcases hdl with h | h
    ·exact h
    ·rw[h]at ht;simp at ht
   obtain⟨y,hy⟩:∃ y,m[i]?=some y:=⟨m[i],List.getElem?_eq_getElem (by omega)⟩;have hy0:=List.getElem?_eq_some_iff.1 hy;rw[List.drop_eq_getElem_cons ht,hy0.2]at heq;have hw:=fz i m.length ht (by omega);have hyl:=y.toNat_lt;intros;refine gN ?_;intros;refine gr 18 21 ?_;refine sJ c213r6.eq_1 ?_;refine hB.x_l1 hy rfl rfl ?_;rintro a1 ha1 u hu;cases hu;refine sI ?_;intros;try refine dv ?_
   refine eA (fun e h=>¬ ((i=9∧1 < y.toNat)∨(0 < i∧y.toNat=0))∧e 16=.int .i64 i∧e 15=.int .i64 m.length∧e 14=.slice B m.length d∧e 7=.int .u64 (z:Int)∧e 1=.int .i64 (a:Int)∧e 8=.int .i64 i∧e 9=.int .u8 (y.toNat:Int)∧h=⟨G,[],[]⟩) ?_ ?_
   ·have hbad:((i=9∧1 < y.toNat)∨(0 < i∧y.toNat=0))→∀ (fr:List Td) (e:Env),go none Tryz.prog 58 v213.1 v213.2 (fW o213 fun v h=>v=.tuple #[.int .i64 (if (gvL 0 0 m).1=0 then(zag (gvL 0 0 m).2.1,(a:Int)+(gvL 0 0 m).2.2,0)else(0,0,(gvL 0 0 m).1)).1,.int .i64 (if (gvL 0 0 m).1=0 then(zag (gvL 0 0 m).2.1,(a:Int)+(gvL 0 0 m).2.2,0)else(0,0,(gvL 0 0 m).1)).2.1,.int .i64 (if (gvL 0 0 m).1=0 then(zag (gvL 0 0 m).2.1,(a:Int)+(gvL 0 0 m).2.2,0)else(0,0,(gvL 0 0 m).1)).2.2]) (Td.s ((SC.reg false c213r8).seq .ret) :: fr) e ⟨G,[],[]⟩:=fun hx fr e=>by
     intros;refine gr 0 0 ?_;refine sJ c213r8.eq_1 ?_;intros;refine rV ?_;simp only[push_cast,Nat.reduceBEq];rw[heq,qG hx];rfl
    intros;refine gr 21 34 ?_;refine sJ c213r7.eq_1 ?_;refine gd (fun k1=>?_) (fun k1=>?_)
    ·have k1:i=9:=by have:=of_decide_eq_true k1;omega
     have hp:decide ((0:Int) < (i:Int))=true:=decide_eq_true (by omega);refine sI ?_;refine gd (fun k2=>?_) (fun k2=>?_)
     ·have k2:=of_decide_eq_true k2;refine sI ?_;intros;refine gc ?_;refine sI ?_;exact hbad (.inl ⟨k1,by omega⟩) _ _
     ·have k2:=of_decide_eq_false k2;refine sJ @hp ?_;intros;refine gc ?_;refine sI ?_;refine gb (fun k3=>?_) (fun k3=>?_)
      ·exact hbad (.inr ⟨by omega,by have:=of_decide_eq_true k3;omega⟩) _ _
      ·have k3:=of_decide_eq_false k3
       (intros;try refine du ?_)
       exact eh ⟨by omega,eE,eE,eE,eE,eE,eE,eE,rfl⟩
    ·have k1:¬ i=9:=by have:=of_decide_eq_false k1;omega
     refine sI ?_;refine gd (fun k2=>?_) (fun k2=>?_)
     ·have k2:=of_decide_eq_true k2;refine sI ?_;intros;refine gc ?_;refine sI ?_;refine gb (fun k3=>?_) (fun k3=>?_)
      ·exact hbad (.inr ⟨by omega,by have:=of_decide_eq_true k3;omega⟩) _ _
      ·have k3:=of_decide_eq_false k3
       (intros;try refine du ?_)
       exact eh ⟨by omega,eE,eE,eE,eE,eE,eE,eE,rfl⟩
     ·have k2:=of_decide_eq_false k2;refine sI ?_;intros;refine gc ?_;refine sI ?_
      (intros;try refine du ?_)
      exact eh ⟨by omega,eE,eE,eE,eE,eE,eE,eE,rfl⟩
   rintro e h ⟨hgood,e16,e15,e14,e7,e1,e8,e9,rfl⟩;refine dz [1,7,8,9,14,15,16] ?_;refine sJ7 @e1 @e7 @e8 @e9 @e14 @e15 @e16 ?_;obtain⟨s1,s2,s3⟩:=vk hi9 hz (fun h=>hgood (.inl h)) hyl;have hp7:128 ^ i=2 ^ (7 * i):=by rw[Nat.pow_mul]
   have w7:IntKind.i64.wrap (7 * (i:Int))=((7 * i:Nat):Int):=by rw[dU] <;> omega
   have hs:eZ .shl (.int .u64 ((y.toNat % 128:Nat):Int)) (.int .i64 ((7 * i:Nat):Int))=some (.int .u64 ((y.toNat % 128 * 2 ^ (7 * i):Nat):Int)):=pC (by omega) (by rw[← hp7,Nat.mul_comm];exact s1) .i64;have ho:eZ .or (.int .u64 (z:Int)) (.int .u64 ((y.toNat % 128 * 2 ^ (7 * i):Nat):Int))=some (.int .u64 ((z+128 ^ i * (y.toNat % 128):Nat):Int)):=by
    rw[rY (by omega) (by rw[← hp7,Nat.mul_comm];exact s1),Nat.or_comm,sC (by rw[← hp7];exact hz),← hp7,Nat.mul_comm,Nat.add_comm]
   have hcu:IntKind.u64.wrap ((y.toNat % 128:Nat):Int)=((y.toNat % 128:Nat):Int):=nL (by omega);have hx127:=Bf y;generalize hq:y.toNat % 128=q at hs ho hcu hx127;generalize hz':z+128 ^ i * q=z' at ho;generalize hqq:q * 2 ^ (7 * i)=qq at hs ho;generalize h7i:7 * i=j7 at hs w7;have hz2:z' < 18446744073709551616:=by rw[← hz',← hq];exact s2
   intros;refine gr 35 43 ?_;refine sJ6 c213r9.eq_1 @hx127 @hcu @w7 @hs @ho ?_;intros;refine gr 43 44 ?_;refine sJ c213r10.eq_1 ?_;intros;refine gc ?_;refine sI ?_;refine gb (fun k3=>?_) (fun k3=>?_)
   ·have k3:=of_decide_eq_true k3;have w8:IntKind.i64.wrap ((a:Int)+i)=((a+i:Nat):Int):=by rw[dU] <;> omega
    have w9:IntKind.i64.wrap (((a+i:Nat):Int)+1)=((a+i+1:Nat):Int):=by rw[dU] <;> omega
    have hx:=BX hz2;have hcz:IntKind.i64.wrap ((z' / 2:Nat):Int)=((z' / 2:Nat):Int):=by rw[dU] <;> omega
    have hcm:IntKind.i64.wrap ((z' % 2:Nat):Int)=((z' % 2:Nat):Int):=by rw[dU] <;> omega
    have ha1:=rA hz2;have hs1:=qE z';generalize hv1:z' / 2=v1 at hx hcz hs1;generalize hv2:z' % 2=v2 at hx hcm ha1;generalize hv3:a+i=v3 at w8 w9;generalize hv4:v3+1=v4 at w9
    intros;refine gr 45 57 ?_;(try simp -implicitDefEqProofs only[oY,oZ,push_cast,Nat.reduceBEq,Nat.reduceAdd,Nat.reduceSub,Nat.reduceMul,Nat.reduceLT,Nat.reduceLeDiff,Nat.reduceEqDiff,reduceIte,Bool.not_true,Bool.not_false,true_and,and_true,Option.map_some,Option.bind_some,Int.toNat_natCast,c213r11,hs1,ha1,hcz,hcm,hx,w8,w9]);intros;refine rV ?_;simp only[push_cast,Nat.reduceBEq]
    have hend:=m6 (z:=z) (xs:=m.drop (i+1)) hgood (by omega);rw[heq,hend];simp only[if_true];rw[hq,hz',← hv4,← hv3];simp[Int.add_assoc]
   ·have k3:=of_decide_eq_false k3;have hi8:i≤8:=by omega
    rw[mp hgood (by omega),hq,hz']at heq;intros;refine gN ?_;intros;refine gr 57 58 ?_;refine sJ2 c213r12.eq_1 @hw ?_
    (intros;try refine du ?_)
    refine eh ⟨⟨i+1,z',⟨by omega,by omega,by rw[← hz',← hq];exact s3 hi8,heq⟩,eE,eE,eE,eE,eE,rfl⟩,?_⟩;refine sI ?_;omega
  ·have ht:i=m.length:=by simp at ht;omega
   rw[ht,List.drop_length,Cu]at heq;refine dT ?_;refine sI ?_;intros;refine gr 0 0 ?_;refine sJ c213r13.eq_1 ?_;intros;refine rV ?_;simp only[push_cast,Nat.reduceBEq];rw[heq];rfl
theorem F223:Fun Tryz.prog 223 14 v223 c223 o223:=Fun.mkA Tryz.func223 Tryz.ntmps223
theorem F221:Fun Tryz.prog 221 13 v221 c221 o221:=Fun.mkA Tryz.func221 Tryz.ntmps221
theorem lq{l:List UInt8}{a:Int}(h:(fy l a).2.2=0):∃ k:Nat,0≤a∧(fy l a).2.1=((a.toNat+k:Nat):Int)∧0 < k∧a.toNat+k≤l.length∧I64 (fy l a).1:=by
 unfold fy at h ⊢;split at h
 ·cases h
 rename_i h0;rw[if_neg h0];split at h
 ·rename_i h1;rw[if_pos h1];obtain⟨a1,a2,a3⟩:=zM _ 0 0 (by omega) (by simp) h1;refine⟨_,by omega,?_,a2,?_,He a1⟩
  ·dsimp only;omega
  ·have:(gvL 0 0 (l.drop a.toNat)).2.2≤l.length - a.toNat:=by simpa using a3
   omega
 ·rename_i h1;exact absurd h h1
def li(l:List UInt8)(a most:Int):ByteArray × Int × Int :=
 if (fy l a).2.2=0 then
  if (fy l a).1 < 0 then(⟨#[]⟩,0,11)else if most < (fy l a).1 then(⟨#[]⟩,0,2)else if (l.length:Int) - (fy l a).2.1 < (fy l a).1 then(⟨#[]⟩,0,10)
  else(⟨((l.take ((fy l a).2.1.toNat+(fy l a).1.toNat)).drop (fy l a).2.1.toNat).toArray⟩,(fy l a).2.1+(fy l a).1,0)
 else(⟨#[]⟩,0,(fy l a).2.2)
theorem tc(l:List UInt8)(a most:Int)(v:Value)(G:Nat→Option Obj)(hl:SB G v l):
  FnS Tryz.prog 222 #[v,.int .i64 a,.int .i64 most] G (.tuple #[.string (li l a most).1,.int .i64 (li l a most).2.1,.int .i64 (li l a most).2.2]):=by
 obtain⟨A,c,rfl,hc,hm,hA⟩:=id hl;unfold maxLen at hm;refine F222.fnS (by simp) (dF ?_);unfold c222 li;have hk:=@lq l a;intros;refine gr 0 0 ?_;refine sJ c222r0.eq_1 ?_;intros;refine gr 10 17 ?_;refine sJ c222r1.eq_1 ?_;refine(kN l a _ G hl _ _).mono ?_;rintro _ _ ⟨rfl,rfl⟩;refine sI ?_;generalize fy l a=q at hk ⊢;obtain⟨n,next,er⟩:=q;dsimp only at hk ⊢
 intros;refine gr 18 20 ?_;refine sJ c222r2.eq_1 ?_;intros;refine gc ?_;refine sI ?_;refine gb (fun h1=>?_) (fun h1=>?_)
 ·have h1:=of_decide_eq_true h1;intros;refine gr 20 21 ?_;refine sJ c222r3.eq_1 ?_;intros;refine rV ?_;simp only[push_cast,Nat.reduceBEq];rw[if_neg h1]
 have h1:er=0:=by simpa using h1
 obtain⟨k,ha,hnx,hk0,hkl,hn⟩:=hk h1;generalize hb:a.toNat+k=b at hnx hkl;subst hnx;rw[if_pos h1];intros;refine gr 22 24 ?_;refine sJ c222r4.eq_1 ?_;intros;refine gc ?_;refine sI ?_;refine gb (fun h2=>?_) (fun h2=>?_)
 ·have h2:=of_decide_eq_true h2;intros;refine gr 0 0 ?_;refine sJ c222r5.eq_1 ?_;intros;refine rV ?_;simp only[push_cast,Nat.reduceBEq];rw[if_pos h2]
 have h2:=of_decide_eq_false h2;rw[if_neg h2];intros;refine gr 25 28 ?_;refine sJ c222r6.eq_1 ?_;intros;refine gc ?_;refine sI ?_;refine gb (fun h3=>?_) (fun h3=>?_)
 ·have h3:=of_decide_eq_true h3;intros;refine gr 0 0 ?_;refine sJ c222r7.eq_1 ?_;intros;refine rV ?_;simp only[push_cast,Nat.reduceBEq];rw[if_pos h3]
 have h3:=of_decide_eq_false h3;rw[if_neg h3];obtain⟨n,rfl⟩:∃ m:Nat,n=m:=⟨n.toNat,by omega⟩;have w1:IntKind.i64.wrap ((l.length:Int) - b)=(l.length:Int) - b:=by rw[dU] <;> omega
 intros;refine gr 29 35 ?_;refine sJ2 c222r8.eq_1 @w1 ?_;intros;refine gc ?_;refine sI ?_;refine gb (fun h4=>?_) (fun h4=>?_)
 ·have h4:=of_decide_eq_true h4;intros;refine gr 0 0 ?_;refine sJ c222r9.eq_1 ?_;intros;refine rV ?_;simp only[push_cast,Nat.reduceBEq];rw[if_pos (by omega)]
 have h4:=of_decide_eq_false h4;rw[if_neg (by omega)];have w2:IntKind.i64.wrap ((b:Int)+n)=((b+n:Nat):Int):=by rw[dU] <;> omega
 intros;refine gN ?_;intros;refine gr 35 45 ?_;refine sJ2 c222r10.eq_1 @w2 ?_;refine zE b (b+n) c hl rfl rfl rfl (by omega) fun B hB=>?_
 refine sI ?_;refine⟨_,C6 hB rfl,?_⟩;refine sJ @w2 ?_;intros;refine rV ?_;simp only[push_cast,Nat.reduceBEq]
theorem wE(l:List UInt8)(a:Int)(v:Value)(G:Nat→Option Obj)(hl:SB G v l):
  FnS Tryz.prog 221 #[v,.int .i64 a] G (.tuple #[.string (li l a 64).1,.int .i64 (li l a 64).2.1,.int .i64 (li l a 64).2.2]):=by
 refine F221.fnS (by simp) (dF ?_);unfold c221;intros;refine gr 0 0 ?_;refine sJ c221r0.eq_1 ?_;intros;refine gr 7 13 ?_;refine sJ c221r1.eq_1 ?_;refine(tc l a 64 _ G hl _ _).mono ?_;rintro _ _ ⟨rfl,rfl⟩;refine sI ?_;intros;refine rV ?_;simp only[push_cast,Nat.reduceBEq]
def bes(n d:Int):Int:=if d < -1099511627776∨1099511627776 < d then -1 else n+d
theorem pL(n d:Int)(hn:0≤n∧n≤1099511627776)(G:Nat→Option Obj):FnS Tryz.prog 223 #[.int .i64 n,.int .i64 d] G (.int .i64 (bes n d)):=by
 refine F223.fnS (by simp) (dF ?_);unfold c223;intros;refine gr 0 0 ?_;refine sJ c223r0.eq_1 ?_;have hbad:(d < -1099511627776∨1099511627776 < d)→∀ (fr:List Td) (e:Env),go none Tryz.prog 14 v223.1 v223.2 (fW o223 fun v h=>v=.int .i64 (bes n d)) (Td.s ((SC.reg false c223r2).seq .ret) :: fr) e ⟨G,[],[]⟩:=fun hx fr e=>by
  intros;refine gr 0 0 ?_;refine sJ c223r2.eq_1 ?_;intros;refine rV ?_;simp only[push_cast,Nat.reduceBEq];rw[bes,if_pos hx]
 intros;refine gr 5 10 ?_;refine sJ c223r1.eq_1 ?_;refine gd (fun h1=>?_) (fun h1=>?_)
 ·refine sI ?_;intros;refine gc ?_;refine sI ?_;exact hbad (.inl (of_decide_eq_true h1)) _ _
 have h1:=of_decide_eq_false h1;refine sI ?_;intros;refine gc ?_;refine sI ?_;refine gb (fun h2=>?_) (fun h2=>?_)
 ·exact hbad (.inr (of_decide_eq_true h2)) _ _
 have h2:=of_decide_eq_false h2;have w:IntKind.i64.wrap (n+d)=n+d:=by rw[dU] <;> omega
 intros;refine gN ?_;intros;refine gr 11 14 ?_;refine sJ2 c223r3.eq_1 @w ?_;intros;refine rV ?_;simp only[push_cast,Nat.reduceBEq];rw[bes,if_neg (by omega)]
theorem F224:Fun Tryz.prog 224 32 v224 c224 o224:=Fun.mkA Tryz.func224 Tryz.ntmps224
theorem F225:Fun Tryz.prog 225 32 v225 c225 o225:=Fun.mkA Tryz.func225 Tryz.ntmps225
theorem F227:Fun Tryz.prog 227 32 v227 c227 o227:=Fun.mkA Tryz.func227 Tryz.ntmps227
theorem dE{h:H}{b o:Nat}{cs:List Value}{v:Value}(hm:Item.blk b cs∈h.L)(hv:cs[o]?=some v):LdN h (.pointer (some ⟨b,o,none⟩)) none v:=⟨_,rfl,.blk hm hv⟩
def nx{α:Type}(e:Int)(z:α)(x:Int)(r:α × Int × Int):α × Int × Int:=if e=0 then r else(z,x,e)
theorem tf{α:Type}{e:Int}{z:α}{x:Int}{r:α × Int × Int}(h:e=0):nx e z x r=r:=if_pos h
theorem Cz{α:Type}{e:Int}{z:α}{x:Int}{r:α × Int × Int}(h:¬ e=0):nx e z x r=(z,x,e):=if_neg h
theorem qb(l:List UInt8)(a e:Int)(v:Value)(b:Nat)(G:Nat→Option Obj)(hl:SB G v l)(g:Nat)(rd:List UInt8→Int→Int × Int × Int)
  (hg:FnS Tryz.prog g #[v,.int .i64 a] G (.tuple #[.int .i64 (rd l a).1,.int .i64 (rd l a).2.1,.int .i64 (rd l a).2.2])) :
  FnO Tryz.prog 224 #[.pointer (some ⟨b,0,none⟩),.func (.func g) #[] #[]] G [.blk b [v,.int .i64 a,.int .i64 e]] (fun _ L' r=>r=.int .i64 (nx e 0 a (rd l a)).1∧L'=[.blk b [v,.int .i64 (nx e 0 a (rd l a)).2.1,.int .i64 (nx e 0 a (rd l a)).2.2]]):=by
 obtain⟨A,c,rfl,-⟩:=hl;refine F224.fnO (by simp) (dA dt) (dF ?_);unfold c224;intros;refine gr 0 0 ?_;refine sJ c224r0.eq_1 ?_;intros;refine gr 0 0 ?_;refine sJ c224r1.eq_1 ?_;intros;refine gr 6 10 ?_;refine sJ c224r2.eq_1 ?_;refine⟨_,dE (.head _) rfl,?_⟩;refine sI ?_;intros;refine gc ?_;refine sI ?_;refine gb (fun h1=>?_) (fun h1=>?_)
 ·have h1:=of_decide_eq_true h1
  (intros;try refine du ?_);refine qm _ (List.Sublist.refl _) (by decide) ?_;refine sJ c224r3.eq_1 ?_
  refine⟨_,dE (.head _) rfl,?_⟩;refine sI ?_;refine⟨_,dE (.head _) rfl,?_⟩;refine sI ?_;refine .inl ⟨_,_,rfl,?_⟩;refine(hg _ _).mono ?_;rintro _ _ ⟨rfl,rfl⟩;refine sI ?_;refine fO ?_;refine sI ?_;refine dI [] [] rfl (by simp) ⟨rfl,rfl⟩ ?_;refine sI ?_;refine fO ?_;refine sI ?_;refine dI [] [] rfl (by simp) ⟨rfl,rfl⟩ ?_;refine sI ?_
  (intros;try refine du ?_)
  intros;refine gr 31 32 ?_;refine sJ c224r4.eq_1 ?_
  (intros;try refine du ?_)
  refine dC (dG _ rfl (List.Sublist.refl _) (dA dt) ?_);rw[tf h1];exact⟨rfl,rfl⟩
 ·have h1:=of_decide_eq_false h1;intros;refine gN ?_;intros;refine gr 31 32 ?_;refine sJ c224r4.eq_1 ?_
  (intros;try refine du ?_)
  refine dC (dG _ rfl (List.Sublist.refl _) (dA dt) ?_);rw[Cz h1];exact⟨rfl,rfl⟩
theorem wW(l:List UInt8)(a e:Int)(v:Value)(b:Nat)(G:Nat→Option Obj)(hl:SB G v l)(g:Nat)(rd:List UInt8→Int→Bool × Int × Int)
  (hg:FnS Tryz.prog g #[v,.int .i64 a] G (.tuple #[.bool (rd l a).1,.int .i64 (rd l a).2.1,.int .i64 (rd l a).2.2])) :
  FnO Tryz.prog 225 #[.pointer (some ⟨b,0,none⟩),.func (.func g) #[] #[]] G [.blk b [v,.int .i64 a,.int .i64 e]] (fun _ L' r=>r=.bool (nx e false a (rd l a)).1∧L'=[.blk b [v,.int .i64 (nx e false a (rd l a)).2.1,.int .i64 (nx e false a (rd l a)).2.2]]):=by
 obtain⟨A,c,rfl,-⟩:=hl;refine F225.fnO (by simp) (dA dt) (dF ?_);unfold c225;intros;refine gr 0 0 ?_;refine sJ c225r0.eq_1 ?_;intros;refine gr 0 0 ?_;refine sJ c225r1.eq_1 ?_;intros;refine gr 6 10 ?_;refine sJ c225r2.eq_1 ?_;refine⟨_,dE (.head _) rfl,?_⟩;refine sI ?_;intros;refine gc ?_;refine sI ?_;refine gb (fun h1=>?_) (fun h1=>?_)
 ·have h1:=of_decide_eq_true h1
  (intros;try refine du ?_);refine qm _ (List.Sublist.refl _) (by decide) ?_;refine sJ c225r3.eq_1 ?_
  refine⟨_,dE (.head _) rfl,?_⟩;refine sI ?_;refine⟨_,dE (.head _) rfl,?_⟩;refine sI ?_;refine .inl ⟨_,_,rfl,?_⟩;refine(hg _ _).mono ?_;rintro _ _ ⟨rfl,rfl⟩;refine sI ?_;refine fO ?_;refine sI ?_;refine dI [] [] rfl (by simp) ⟨rfl,rfl⟩ ?_;refine sI ?_;refine fO ?_;refine sI ?_;refine dI [] [] rfl (by simp) ⟨rfl,rfl⟩ ?_;refine sI ?_
  (intros;try refine du ?_)
  intros;refine gr 31 32 ?_;refine sJ c225r4.eq_1 ?_
  (intros;try refine du ?_)
  refine dC (dG _ rfl (List.Sublist.refl _) (dA dt) ?_);rw[tf h1];exact⟨rfl,rfl⟩
 ·have h1:=of_decide_eq_false h1;intros;refine gN ?_;intros;refine gr 31 32 ?_;refine sJ c225r4.eq_1 ?_
  (intros;try refine du ?_)
  refine dC (dG _ rfl (List.Sublist.refl _) (dA dt) ?_);rw[Cz h1];exact⟨rfl,rfl⟩
theorem px(l:List UInt8)(a e:Int)(v:Value)(b:Nat)(G:Nat→Option Obj)(hl:SB G v l)(g:Nat)(rd:List UInt8→Int→ByteArray × Int × Int)
  (hg:FnS Tryz.prog g #[v,.int .i64 a] G (.tuple #[.string (rd l a).1,.int .i64 (rd l a).2.1,.int .i64 (rd l a).2.2])) :
  FnO Tryz.prog 227 #[.pointer (some ⟨b,0,none⟩),.func (.func g) #[] #[]] G [.blk b [v,.int .i64 a,.int .i64 e]] (fun _ L' r=>r=.string (nx e ⟨#[]⟩ a (rd l a)).1∧L'=[.blk b [v,.int .i64 (nx e ⟨#[]⟩ a (rd l a)).2.1,.int .i64 (nx e ⟨#[]⟩ a (rd l a)).2.2]]):=by
 obtain⟨A,c,rfl,-⟩:=hl;refine F227.fnO (by simp) (dA dt) (dF ?_);unfold c227;intros;refine gr 0 0 ?_;refine sJ c227r0.eq_1 ?_;intros;refine gr 0 0 ?_;refine sJ c227r1.eq_1 ?_;intros;refine gr 6 10 ?_;refine sJ c227r2.eq_1 ?_;refine⟨_,dE (.head _) rfl,?_⟩;refine sI ?_;intros;refine gc ?_;refine sI ?_;refine gb (fun h1=>?_) (fun h1=>?_)
 ·have h1:=of_decide_eq_true h1
  (intros;try refine du ?_);refine qm _ (List.Sublist.refl _) (by decide) ?_;refine sJ c227r3.eq_1 ?_
  refine⟨_,dE (.head _) rfl,?_⟩;refine sI ?_;refine⟨_,dE (.head _) rfl,?_⟩;refine sI ?_;refine .inl ⟨_,_,rfl,?_⟩;refine(hg _ _).mono ?_;rintro _ _ ⟨rfl,rfl⟩;refine sI ?_;refine fO ?_;refine sI ?_;refine dI [] [] rfl (by simp) ⟨rfl,rfl⟩ ?_;refine sI ?_;refine fO ?_;refine sI ?_;refine dI [] [] rfl (by simp) ⟨rfl,rfl⟩ ?_;refine sI ?_
  (intros;try refine du ?_)
  intros;refine gr 31 32 ?_;refine sJ c227r4.eq_1 ?_
  (intros;try refine du ?_)
  refine dC (dG _ rfl (List.Sublist.refl _) (dA dt) ?_);rw[tf h1];exact⟨rfl,rfl⟩
 ·have h1:=of_decide_eq_false h1;intros;refine gN ?_;intros;refine gr 31 32 ?_;refine sJ c227r4.eq_1 ?_
  (intros;try refine du ?_)
  refine dC (dG _ rfl (List.Sublist.refl _) (dA dt) ?_);rw[Cz h1];exact⟨rfl,rfl⟩
theorem F214:Fun Tryz.prog 214 82 v214 c214 o214:=Fun.mkA Tryz.func214 Tryz.ntmps214
def kB:Rec:=⟨0,⟨#[]⟩,⟨#[]⟩,false,0⟩
def g1(l:List UInt8)(a:Int):Int × Int × Int:=nx 0 0 a (fy l a)
def g2(l:List UInt8)(a:Int):Int × Int × Int:=nx (g1 l a).2.2 0 (g1 l a).2.1 (fy l (g1 l a).2.1)
def g3(l:List UInt8)(a:Int):Bool × Int × Int:=nx (g2 l a).2.2 false (g2 l a).2.1 (sn l (g2 l a).2.1.toNat)
def g4(l:List UInt8)(a:Int):ByteArray × Int × Int:=nx (g3 l a).2.2 ⟨#[]⟩ (g3 l a).2.1 (li l (g3 l a).2.1 64)
def g5(l:List UInt8)(a:Int):ByteArray × Int × Int:=nx (g4 l a).2.2 ⟨#[]⟩ (g4 l a).2.1 (li l (g4 l a).2.1 64)
def ue(l:List UInt8)(a base stamp:Int):Rec:=⟨bes base (g1 l a).1,(g4 l a).1,(g5 l a).1,(g3 l a).1,bes stamp (g2 l a).1⟩
def getR(l:List UInt8)(a base stamp:Int):Rec × Int × Int :=
 if inO base=true∧inO stamp=true∧0≤a∧a≤l.length then
  if (g5 l a).2.2=0 then(if j9 (ue l a base stamp)=0 then(ue l a base stamp,(g5 l a).2.1,0)else(kB,0,1))else(kB,0,(g5 l a).2.2)
 else(kB,0,1)
theorem mE(l:List UInt8)(a:Int):0≤(fy l a).2.1:=by
 by_cases h:(fy l a).2.2=0
 ·obtain⟨k,h1,h2,-⟩:=lq h;omega
 ·unfold fy at h ⊢;split
  ·simp
  ·rename_i h0;rw[if_neg h0]at h;split
   ·rename_i h1;rw[if_pos h1]at h;simp at h
   ·simp
theorem GZ(l:List UInt8)(a:Int):0≤(g2 l a).2.1:=by
 unfold g2 nx;split
 ·exact mE _ _
 ·unfold g1;rw[tf rfl];exact mE _ _
theorem C7(l:List UInt8)(a base stamp:Int)(v:Value)(G:Nat→Option Obj)(hl:SB G v l):
  FnE Tryz.prog 214 #[v,.int .i64 a,.int .i64 base,.int .i64 stamp] G (fun r=>r=.tuple #[.agg (gV (getR l a base stamp).1).toArray,.int .i64 (getR l a base stamp).2.1,.int .i64 (getR l a base stamp).2.2]):=by
 obtain⟨A,c,rfl,hc,hm,hA⟩:=id hl;refine F214.fnE (by simp) (dF ?_);unfold c214;have hck:=fun x=>nW x
 unfold gV at hck;intros;refine gr 0 0 ?_;refine sJ c214r0.eq_1 ?_
 have hbad:∀ (fr:List Td) (e:Env),¬ (inO base=true∧inO stamp=true∧0≤a∧a≤l.length)→go none Tryz.prog 82 v214.1 v214.2 (fW o214 fun v _=>v=.tuple #[.agg (gV (getR l a base stamp).1).toArray,.int .i64 (getR l a base stamp).2.1,.int .i64 (getR l a base stamp).2.2]) (Td.s ((SC.reg false c214r2).seq .ret) :: fr) e ⟨G,[.reg 8 [.int .i64 0,.string ⟨#[]⟩,.string ⟨#[]⟩,.bool false,.int .i64 0]],[]⟩:=fun fr e hx=>by
  intros;refine gr 31 32 ?_;refine sJ c214r2.eq_1 ?_;intros;refine rV ?_;simp only[push_cast,Nat.reduceBEq];rw[getR,if_neg hx];rfl
 intros;refine gr 13 30 ?_;refine sJ c214r1.eq_1 ?_;refine(tU base G _ _).mono ?_;rintro _ _ ⟨rfl,rfl⟩;refine sI ?_;refine gd (fun h1=>?_) (fun h1=>?_)
 ·refine sI ?_;intros;refine gc ?_;refine sI ?_;exact hbad _ _ fun h=>by rw[h.1]at h1;cases h1
 refine sI ?_;refine(tU stamp G _ _).mono ?_;rintro _ _ ⟨rfl,rfl⟩;refine sI ?_;refine gd (fun h2=>?_) (fun h2=>?_)
 ·refine sI ?_;intros;refine gc ?_;refine sI ?_;exact hbad _ _ fun h=>by rw[h.2.1]at h2;cases h2
 refine sI ?_;refine gd (fun h3=>?_) (fun h3=>?_)
 ·refine sI ?_;intros;refine gc ?_;refine sI ?_;exact hbad _ _ fun h=>by have:=of_decide_eq_true h3;omega
 refine sI ?_;intros;refine gc ?_;refine sI ?_;refine gb (fun h4=>?_) (fun h4=>?_)
 ·exact hbad _ _ fun h=>by have:=of_decide_eq_true h4;omega
 clear hbad;have h1:inO base=true:=by simpa using h1
 have h2:inO stamp=true:=by simpa using h2
 have h3:=of_decide_eq_false h3;have h4:=of_decide_eq_false h4;have hb:0≤base∧base≤1099511627776:=by simpa [inO]using h1
 have hs:0≤stamp∧stamp≤1099511627776:=by simpa [inO]using h2
 rw[show getR l a base stamp=(if (g5 l a).2.2=0 then(if j9 (ue l a base stamp)=0 then(ue l a base stamp,(g5 l a).2.1,0)else(kB,0,1))else(kB,0,(g5 l a).2.2))from if_pos ⟨h1,h2,by omega,by omega⟩];intros;refine gN ?_;intros;refine gr 32 36 ?_;refine sJ c214r3.eq_1 ?_;intro b hb0;refine sI ?_;intros;refine gr 0 0 ?_;refine sJ c214r4.eq_1 ?_;intros;refine gr 36 40 ?_;refine sJ c214r5.eq_1 ?_
 refine(qb l a 0 _ b G hl 213 fy (kN l a _ G hl) _ []).mono ?_;rintro r h' ⟨G1,L',rfl,hg1,rfl,rfl⟩;rw[show nx 0 0 a (fy l a)=g1 l a from rfl];refine sI ?_;refine(pL base _ hb G1 _ _).mono ?_;rintro _ _ ⟨rfl,rfl⟩;refine sI ?_;intros;refine gr 41 45 ?_;refine sJ c214r6.eq_1 ?_;have hl1:=SB.le hl hg1;refine(qb l (g1 l a).2.1 (g1 l a).2.2 _ b G1 hl1 213 fy (kN l _ _ G1 hl1) _ []).mono ?_
 rintro r h' ⟨G2,L',rfl,hg2,rfl,rfl⟩;rw[show nx (g1 l a).2.2 0 (g1 l a).2.1 (fy l (g1 l a).2.1)=g2 l a from rfl];refine sI ?_;refine(pL stamp _ hs G2 _ _).mono ?_;rintro _ _ ⟨rfl,rfl⟩;refine sI ?_;intros;refine gr 46 48 ?_;refine sJ c214r7.eq_1 ?_;have hl2:=SB.le hl1 hg2;have hfl:=Cj l (g2 l a).2.1.toNat _ G2 hl2;rw[Int.toNat_of_nonneg (GZ l a)]at hfl
 refine(wW l (g2 l a).2.1 (g2 l a).2.2 _ b G2 hl2 226 (fun l a=>sn l a.toNat) hfl _ []).mono ?_;rintro r h' ⟨G3,L',rfl,hg3,rfl,rfl⟩;rw[show nx (g2 l a).2.2 false (g2 l a).2.1 (sn l (g2 l a).2.1.toNat)=g3 l a from rfl];have hl3:=SB.le hl2 hg3;refine sI ?_;intros;refine gr 49 55 ?_;refine sJ c214r8.eq_1 ?_
 refine(px l (g3 l a).2.1 (g3 l a).2.2 _ b G3 hl3 221 (fun l a=>li l a 64) (wE l _ _ G3 hl3) _ []).mono ?_;rintro r h' ⟨G4,L',rfl,hg4,rfl,rfl⟩;rw[show nx (g3 l a).2.2 ⟨#[]⟩ (g3 l a).2.1 (li l (g3 l a).2.1 64)=g4 l a from rfl];have hl4:=SB.le hl3 hg4;refine sI ?_;refine(px l (g4 l a).2.1 (g4 l a).2.2 _ b G4 hl4 221 (fun l a=>li l a 64) (wE l _ _ G4 hl4) _ []).mono ?_
 rintro r h' ⟨G5,L',rfl,hg5,rfl,rfl⟩;rw[show nx (g4 l a).2.2 ⟨#[]⟩ (g4 l a).2.1 (li l (g4 l a).2.1 64)=g5 l a from rfl];refine sI ?_;intro _;have hrr:ue l a base stamp=⟨bes base (g1 l a).1,(g4 l a).1,(g5 l a).1,(g3 l a).1,bes stamp (g2 l a).1⟩:=rfl;generalize bes base (g1 l a).1=q0 at hrr ⊢;generalize (g4 l a).1=q1 at hrr ⊢;generalize (g5 l a).1=q2 at hrr ⊢;generalize (g3 l a).1=q3 at hrr ⊢
 generalize bes stamp (g2 l a).1=q4 at hrr ⊢;generalize (g5 l a).2.1=x5;generalize (g5 l a).2.2=e5;generalize ue l a base stamp=R at hrr ⊢;have hckR:=hck R;subst hrr;dsimp only at hckR;intros;try refine dv ?_
 refine eA (fun e h=>e 11=.pointer (some ⟨b,0,none⟩)∧h=⟨G5,[.blk b [.slice A l.length c,.int .i64 x5,.int .i64 (if e5=0 then j9 ⟨q0,q1,q2,q3,q4⟩else e5)],.reg 8 [.int .i64 q0,.string q1,.string q2,.bool q3,.int .i64 q4]],[]⟩) ?_ ?_
 ·intros;refine gr 57 61 ?_;refine sJ c214r9.eq_1 ?_;refine⟨_,dE (.head _) rfl,?_⟩;refine sI ?_;intros;refine gc ?_;refine sI ?_;refine gb (fun k1=>?_) (fun k1=>?_)
  ·have k1:=of_decide_eq_true k1;intros;refine gr 62 67 ?_;refine sJ c214r10.eq_1 ?_;refine(hckR G5 _ _).mono ?_;rintro _ _ ⟨rfl,rfl⟩;refine sI ?_;refine dI [] [_] rfl (by simp) ⟨rfl,rfl⟩ ?_;refine sI ?_
   (intros;try refine du ?_)
   exact eh ⟨eE,by rw[if_pos k1]⟩
  ·have k1:=of_decide_eq_false k1
   (intros;try refine du ?_)
   exact eh ⟨eE,by rw[if_neg k1]⟩
 rintro e h ⟨e11,rfl⟩;refine dz [11] ?_;refine sJ @e11 ?_;generalize hce:j9 ⟨q0,q1,q2,q3,q4⟩=ce;have hck01:ce=0∨ce=1:=by
  rw[← hce];unfold j9;split
  ·exact .inl rfl
  ·exact .inr rfl
 generalize he':(if e5=0 then ce else e5)=e';intros;refine gr 67 71 ?_;refine sJ c214r11.eq_1 ?_;refine⟨_,dE (.head _) rfl,?_⟩;refine sI ?_;intros;refine gc ?_;refine sI ?_;refine gb (fun k1=>?_) (fun k1=>?_)
 ·have k1:=of_decide_eq_true k1
  (intros;try refine du ?_);refine qm _ (.cons_cons _ (.cons _ (List.Sublist.refl _))) (by decide) ?_;refine sJ c214r12.eq_1 ?_
  refine⟨_,dE (.head _) rfl,?_⟩;refine sI ?_;refine⟨dK (fun _ _ h=>h) (.cons_cons _ (.cons _ (List.Sublist.refl _))),?_⟩;refine sI ?_;intros;refine rV ?_;simp only[push_cast,Nat.reduceBEq];by_cases h5:e5=0
  ·rw[if_pos h5]at he';subst he';rw[if_pos h5,if_neg k1,hck01.resolve_left k1];rfl
  ·rw[if_neg h5]at he';subst he';rw[if_neg h5];rfl
 ·have k1:e'=0:=by simpa using k1
  intros;refine gN ?_
  (intros;try refine du ?_);refine qm _ (List.Sublist.refl _) (by decide) ?_;refine sJ c214r13.eq_1 ?_
  refine⟨_,dE (.head _) rfl,?_⟩;refine sI ?_;intros;refine rV ?_;simp only[push_cast,Nat.reduceBEq];by_cases h5:e5=0
  ·rw[if_pos h5]at he';rw[if_pos h5,if_pos (by rw[he'];exact k1)];rfl
  ·rw[if_neg h5]at he';rw[he']at h5;exact absurd k1 h5
theorem Ex(l:List UInt8)(a:Int):g1 l a=fy l a:=tf rfl
theorem qZ{l:List UInt8}{a base stamp:Int}(h:inO base=true∧inO stamp=true∧0≤a∧a≤l.length):getR l a base stamp=(if (g5 l a).2.2=0 then(if j9 (ue l a base stamp)=0 then(ue l a base stamp,(g5 l a).2.1,0)else(kB,0,1))else(kB,0,(g5 l a).2.2)):=if_pos h
theorem Au{l:List UInt8}{a base stamp:Int}(h:inO base=true∧inO stamp=true∧0≤a∧a≤l.length)(h5:¬ (g5 l a).2.2=0):getR l a base stamp=(kB,0,(g5 l a).2.2):=by rw[qZ h,if_neg h5]
theorem Ak{l:List UInt8}{a base stamp:Int}(h:inO base=true∧inO stamp=true∧0≤a∧a≤l.length)(h4:¬ (g4 l a).2.2=0):getR l a base stamp=(kB,0,(g4 l a).2.2):=by
 have h5:(g5 l a).2.2=(g4 l a).2.2:=by rw[g5,Cz h4]
 rw[Au h (by rw[h5];exact h4),h5]
theorem zZ{l:List UInt8}{a base stamp:Int}(h:inO base=true∧inO stamp=true∧0≤a∧a≤l.length)(h3:¬ (g3 l a).2.2=0):getR l a base stamp=(kB,0,(g3 l a).2.2):=by
 have h4:(g4 l a).2.2=(g3 l a).2.2:=by rw[g4,Cz h3]
 rw[Ak h (by rw[h4];exact h3),h4]
theorem zY{l:List UInt8}{a base stamp:Int}(h:inO base=true∧inO stamp=true∧0≤a∧a≤l.length)(h2:¬ (g2 l a).2.2=0):getR l a base stamp=(kB,0,(g2 l a).2.2):=by
 have h3:(g3 l a).2.2=(g2 l a).2.2:=by rw[g3,Cz h2]
 rw[zZ h (by rw[h3];exact h2),h3]
theorem EV{l:List UInt8}{a base stamp:Int}(h:inO base=true∧inO stamp=true∧0≤a∧a≤l.length)(h1:¬ (g1 l a).2.2=0):getR l a base stamp=(kB,0,(g1 l a).2.2):=by
 have h2:(g2 l a).2.2=(g1 l a).2.2:=by rw[g2,Cz h1]
 rw[zY h (by rw[h2];exact h1),h2]
theorem F197:Fun Tryz.prog 197 33 v197 c197 o197:=Fun.mkA Tryz.func197 Tryz.ntmps197
theorem pw(n k:Nat):lW n (k+1)=lW (n / 256) k++[UInt8.ofNat n]:=by
 unfold lW;rw[List.range_succ,List.map_append];congr 1
 ·apply List.map_congr_left;intro i hi;have hi:=List.mem_range.1 hi;congr 1;rw[Nat.div_div_eq_div_mul,show k+1 - 1 - i=(k - 1 - i)+1 by omega,Nat.pow_succ,Nat.mul_comm]
 ·simp
theorem qg(l:List UInt8)(x:UInt8):lL (l++[x])=lL l * 256+x.toNat:=by simp[lL]
theorem mT:∀ (k:Nat) (l:List UInt8),l.length=k→lW (lL l) k=l
 | 0,l,h=>by
  have:l=[]:=List.eq_nil_of_length_eq_zero h;subst this;rfl
 | k+1,l,h=>by
  obtain⟨m,x,rfl⟩:∃ m x,l=m++[x]:=by
   have hne:l≠[]:=by intro h0;rw[h0]at h;cases h
   exact⟨l.dropLast,l.getLast hne,(List.dropLast_concat_getLast hne).symm⟩
  have hx:=x.toNat_lt;have hl:m.length=k:=by simpa using h
  rw[pw,qg,show(lL m * 256+x.toNat) / 256=lL m by omega,mT k m hl];congr 1;have:UInt8.ofNat (lL m * 256+x.toNat)=x:=by
   apply UInt8.toNat_inj.1;simp
  rw[this]
theorem lh:∀ (k n:Nat),n < 256 ^ k→lL (lW n k)=n
 | 0,n,h=>by
  have:n=0:=by simpa using h
  subst this;rfl
 | k+1,n,h=>by
  rw[Nat.pow_succ]at h;rw[pw,qg,lh k (n / 256) (by omega)];simp;try omega
def iM(l:List UInt8):List UInt8 × Int:=if l.length < 4 then([],10)else if l.drop (l.length - 4)=lW (Dl (l.take (l.length - 4))).toNat 4 then(l.take (l.length - 4),0)else([],20)
theorem zG{a:W32}{m:List UInt8}(hm:m.length=4):lL m=a.toNat↔m=lW a.toNat 4:=by
 constructor
 ·intro h;rw[← h,mT 4 m hm]
 ·intro h;rw[h,lh 4 _ (by have:=a.isLt;omega)]
theorem CT(l:List UInt8)(v:Value)(G:Nat→Option Obj)(hl:SB G v l)(hb:l.length≤1000000):FnO Tryz.prog 197 #[v] G [] (fun _ L' r=>yu (iM l) L' r):=by
 obtain⟨A,c,rfl,hc,hm,hA⟩:=id hl;refine F197.fnO (by simp) dt (dF ?_);unfold c197;have w1:IntKind.i64.wrap ((l.length:Int) - 4)=(l.length:Int) - 4:=by rw[dU] <;> omega
 intros;refine gr 0 0 ?_;refine sJ c197r0.eq_1 ?_;intros;refine gr 7 10 ?_;refine sJ2 c197r1.eq_1 @w1 ?_;intros;refine gr 10 11 ?_;refine sJ c197r2.eq_1 ?_;intros;refine gc ?_;refine sI ?_;refine gb (fun h1=>?_) (fun h1=>?_)
 ·have h1:=of_decide_eq_true h1;intros;refine gr 0 0 ?_;refine sJ c197r3.eq_1 ?_
  (intros;try refine du ?_)
  refine dx (dR none 5 1) ?_;refine dC (dG _ rfl (List.Sublist.refl _) (dw dt) ?_);rw[iM,if_pos (by omega)];exact⟨_,rfl,[],.nil,rfl⟩
 have h1:=of_decide_eq_false h1;obtain⟨k,hk⟩:∃ k,l.length=k+4:=⟨l.length - 4,by omega⟩;have hn:((l.length:Int) - 4)=(k:Int):=by omega
 obtain⟨w,hw⟩:∃ w,w=Dl (l.take k):=⟨_,rfl⟩;have hop:iM l=if l.drop k=lW w.toNat 4 then(l.take k,0)else([],20):=by rw[iM,if_neg (by omega),show l.length - 4=k by omega,← hw]
 have hd:(l.drop k).length=4:=by simp;omega
 have hng:=wk l k 4 (by omega) _ G hl;rw[ka,if_neg (by omega),List.take_of_length_le (by omega)]at hng;have hinj:=zG (a:=w) hd;have hpre:=SlV.pre k hl (by omega);have hsum:=zX (l.take k) _ G hpre;rw[← hw]at hsum;unfold vW at hsum;obtain⟨x,hx⟩:∃ x,x=lL (l.drop k):=⟨_,rfl⟩;rw[← hx]at hng hinj;dsimp only at hng;rw[hn]
 have hbad:¬ l.drop k=lW w.toNat 4→∀ (fr:List Td) (e:Env) (G':Nat→Option Obj),go none Tryz.prog 33 v197.1 v197.2 (fW o197 fun v h=>yu (iM l) h.L v) (Td.s ((SC.reg false c197r6).seq .ret) :: fr) e ⟨G',[],[]⟩:=fun hx fr e G'=>by
  intros;refine gr 0 0 ?_;refine sJ c197r6.eq_1 ?_
  (intros;try refine du ?_)
  refine dx (dR none 5 1) ?_;refine dC (dG _ rfl (List.Sublist.refl _) (dw dt) ?_);rw[hop,if_neg hx];exact⟨_,rfl,[],.nil,rfl⟩
 intros;refine gN ?_;intros;refine gr 12 18 ?_;refine sJ c197r4.eq_1 ?_;refine(hng _ _).mono ?_;rintro _ _ ⟨rfl,rfl⟩;refine sI ?_;intros;refine gr 18 28 ?_;refine sJ c197r5.eq_1 ?_;refine gd (fun h=>by simp at h) (fun _=>?_);refine sI ?_;refine⟨by omega,?_⟩;refine(hsum _ _).mono ?_;rintro r h' ⟨G1,rfl,hg1,rfl⟩;refine sJ @Fb ?_;intros;refine gc ?_;refine sI ?_;refine gb (fun h2=>?_) (fun h2=>?_)
 ·have h2:=of_decide_eq_true h2;exact hbad (fun h=>h2 (by rw[hinj.2 h])) _ _ _
 have h2:l.drop k=lW w.toNat 4:=hinj.1 (by have:=of_decide_eq_false h2;omega);clear hbad;intros;refine gN ?_;intros;refine gr 29 33 ?_;refine sJ c197r7.eq_1 ?_;refine⟨by omega,?_⟩;refine l5 (.inr ⟨⟨none,rfl⟩,rfl,rfl,rfl,rfl⟩) (SB.le hpre hg1) rfl UE1 (by simp;unfold maxLen;omega) fun ys A c hc=>?_
 simp only[Nat.zero_add,List.nil_append];refine sI ?_
 (intros;try refine du ?_)
 refine dC (dG _ rfl (List.Sublist.refl _) (dw dt) ?_);rw[hop,if_pos h2];exact⟨_,rfl,ys,hc,rfl⟩
theorem F212:Fun Tryz.prog 212 18 v212 c212 o212:=Fun.mkA Tryz.func212 Tryz.ntmps212
theorem F198:Fun Tryz.prog 198 155 v198 c198 o198:=Fun.mkA Tryz.func198 Tryz.ntmps198
def nh(l:List UInt8):Nat→Option (List Int × Nat)
 | 0=>some ([],0)
 | k+1=>(nh l k).bind fun r=>if (fy l r.2).2.2=0 then some (r.1++[(fy l r.2).1],(fy l r.2).2.1.toNat)else none
def gX(l:List UInt8)(base stamp:Int)(p:Nat):Nat→Option (List Rec × Nat)
 | 0=>some ([],p)
 | k+1=>(gX l base stamp p k).bind fun r=>if (getR l r.2 base stamp).2.2=0 then some (r.1++[(getR l r.2 base stamp).1],(getR l r.2 base stamp).2.1.toNat)else none
def yK(rs:List Rec)(stamp:Int):Bool:=match rs with
 | []=>true
 | r :: _=>decide (r.stamp=stamp)
def mkB(ns:List Int)(m:UInt8)(rs:List Rec):Batch:=⟨ns.getD 0 0,ns.getD 0 0+ns.getD 1 0,ns.getD 2 0,ns.getD 3 0,ns.getD 4 0,ns.getD 5 0,ns.getD 6 0,decide (4≤m.toNat),((m.toNat % 4:Nat):Int),rs⟩
def pt(l:List UInt8)(ns:List Int)(m:UInt8)(many:Nat)(s:Int × Int × Int):Option Batch :=
 if s.2.2=0 then(gX l (ns.getD 0 0) s.1 s.2.1.toNat many).bind fun r=>if r.2=l.length∧yK r.1 s.1=true then some (mkB ns m r.1)else none else none
def mV(l:List UInt8)(ns:List Int)(m:UInt8)(v:Int × Int × Int):Option Batch :=
 if v.2.2=0∧0≤v.1∧v.1≤16 then pt l ns m v.1.toNat (if 0 < v.1 then fy l v.2.1 else(0,v.2.1,0))else none
def mZ(w:Int)(l:List UInt8)(q:List Int × Nat):Option Batch :=
 (l[q.2]?).bind fun m=>if m.toNat < 8∧(0≤q.1.getD 0 0∧q.1.getD 0 0≤1099511627776)∧(0≤q.1.getD 1 0∧q.1.getD 1 0≤w)then mV l q.1 m (fy l ((q.2:Int)+1))else none
def ff(w:Int)(l:List UInt8):Option Batch:=(nh l 7).bind (mZ w l)
theorem pu{l:List UInt8}:∀ (j k:Nat),nh l k=none→nh l (k+j)=none
 | 0,_,h=>h
 | j+1,k,h=>by rw[← Nat.add_assoc,nh,pu j k h];rfl
theorem nG{l:List UInt8}{base stamp:Int}{p:Nat}:∀ (j k:Nat),gX l base stamp p k=none→gX l base stamp p (k+j)=none
 | 0,_,h=>h
 | j+1,k,h=>by rw[← Nat.add_assoc,gX,nG j k h];rfl
theorem wx{l:List UInt8}{base stamp:Int}{p many:Nat}{q:List Rec × Nat}(h:gX l base stamp p many=some q):∀ k,k≤many→∃ q2,gX l base stamp p k=some q2∧∃ t,q.1=q2.1++t:=by
 induction many generalizing q with
 | zero =>
  intro k hk;have:k=0:=by omega
  subst this;exact⟨q,h,[],by simp⟩
 | succ n ih =>
  intro k hk;by_cases hkn:k=n+1
  ·subst hkn;exact⟨q,h,[],by simp⟩
  ·rw[gX]at h;cases hn:gX l base stamp p n with
   | none=>rw[hn]at h;cases h
   | some q1 =>
    rw[hn]at h;simp only[Option.bind_some]at h;split at h
    ·cases h;obtain⟨q2,h2,t,ht⟩:=ih hn k (by omega);exact⟨q2,h2,t++[_],by dsimp only;rw[ht,List.append_assoc]⟩
    ·cases h
theorem mJ(l:List UInt8)(a:Int)(ok:Bool)(b1 b3 b4:Nat)(v:Value)(G:Nat→Option Obj)(hl:SB G v l)(h1:eT G ⟨b1,0,none⟩=some v):
  FnO Tryz.prog 212 #[.pointer (some ⟨b1,0,none⟩),.pointer (some ⟨b4,0,none⟩),.pointer (some ⟨b3,0,none⟩)] G [.blk b4 [.int .i64 a],.blk b3 [.bool ok]]
   (fun G' L' r=>G=G'∧r=.int .i64 (if (fy l a).2.2=0 then(fy l a).1 else 0)∧L'=[.blk b4 [.int .i64 (if (fy l a).2.2=0 then(fy l a).2.1 else a)],.blk b3 [.bool (if (fy l a).2.2=0 then ok else false)]]):=by
 refine F212.fnO (by simp) (dA (dA dt)) (dF ?_);unfold c212;have hgv:=kN l a v G hl;intros;refine gr 0 0 ?_;refine sJ c212r0.eq_1 ?_;intros;refine gr 7 14 ?_;refine sJ c212r1.eq_1 ?_;refine⟨_,⟨_,rfl,.g h1⟩,?_⟩;refine sI ?_;refine⟨_,dE (.head _) rfl,?_⟩;refine(hgv _ _).mono ?_;rintro _ _ ⟨rfl,rfl⟩;refine sI ?_;intros;refine gr 14 15 ?_;refine sJ c212r2.eq_1 ?_;intros;refine gc ?_;refine sI ?_
 refine gb (fun k1=>?_) (fun k1=>?_)
 ·have k1:=of_decide_eq_true k1;intros;refine gr 0 0 ?_;refine sJ c212r3.eq_1 ?_;refine dI [_] [] rfl (by simp) ⟨rfl,rfl⟩ ?_;refine sI ?_;intros;refine gr 0 0 ?_;refine sJ c212r4.eq_1 ?_
  (intros;try refine du ?_)
  refine dC (dG _ rfl (List.Sublist.refl _) (dA (dA dt)) ?_);rw[if_neg k1,if_neg k1,if_neg k1];exact⟨rfl,rfl,rfl⟩
 ·have k1:(fy l a).2.2=0:=by simpa using k1
  intros;refine gN ?_;intros;refine gr 16 17 ?_;refine sJ c212r5.eq_1 ?_;refine dI [] [_] rfl (by simp) ⟨rfl,rfl⟩ ?_;refine sI ?_;intros;refine gr 17 18 ?_;refine sJ c212r6.eq_1 ?_
  (intros;try refine du ?_)
  refine dC (dG _ rfl (List.Sublist.refl _) (dA (dA dt)) ?_);rw[if_pos k1,if_pos k1,if_pos k1];exact⟨rfl,rfl,rfl⟩
def tg(ns:List Int):List Value:=ns.map fun n=>.int .i64 n
theorem tF{zs:List Int}{k:Nat}{x:Int}(hk:k < zs.length):splice (tg zs) k [.int .i64 x]=tg (zs.set k x):=by
 rw[wh _ (by simpa [tg]using hk)];simp[tg]
theorem yM{zs:List Int}{k:Nat}{x:Int}(hk:k < zs.length):(zs.set k x).take (k+1)=zs.take k++[x]:=by
 rw[List.take_succ_eq_append_getElem (by simpa using hk),List.take_set_of_le (Nat.le_refl _)];simp
theorem Ii{x:UInt8}(h:x.toNat < 8):eZ .and (.int .u8 (x.toNat:Int)) (.int .u8 4)=some (.int .u8 (if 4≤x.toNat then 4 else 0)):=by
 have key:∀ b:Fin 8,(BitVec.ofInt 8 ((b.val:Nat):Int) &&& BitVec.ofInt 8 4).toNat=if 4≤b.val then 4 else 0:=by decide +kernel
 have h2:=key ⟨x.toNat,h⟩;simp only[eZ];rw[if_pos trivial];have h3:(BitVec.ofInt IntKind.u8.bits (x.toNat:Int) &&& BitVec.ofInt IntKind.u8.bits 4).toNat=if 4≤x.toNat then 4 else 0:=h2
 rw[h3];split <;> rfl
theorem zt{x:UInt8}(h:x.toNat < 8):eZ .andNot (.int .u8 (x.toNat:Int)) (.int .u8 4)=some (.int .u8 ((x.toNat % 4:Nat):Int)):=by
 have key:∀ b:Fin 8,(BitVec.ofInt 8 ((b.val:Nat):Int) &&& ~~~ BitVec.ofInt 8 4).toNat=b.val % 4:=by decide +kernel
 have h2:=key ⟨x.toNat,h⟩;simp only[eZ];rw[if_pos trivial];have h3:(BitVec.ofInt IntKind.u8.bits (x.toNat:Int) &&& ~~~ BitVec.ofInt IntKind.u8.bits 4).toNat=x.toNat % 4:=h2;rw[h3,IntKind.wrap_u8];congr 2;omega
def se(w:Int)(l:List UInt8)(G:Nat→Option Obj)(r:Value):Prop:=∃ x cs ok,r=.tuple #[.agg cs.toArray,.bool ok]∧BE G x cs∧(if ok=true then ff w l=some x else ff w l=none)
theorem BE.zero{G:Nat→Option Obj}:BE G ⟨0,0,0,0,0,0,0,false,0,[]⟩ [.int .i64 0,.int .i64 0,.int .i64 0,.int .i64 0,.int .i64 0,.int .i64 0,.int .i64 0,.bool false,.int .i64 0,.slice none 0 0]:=⟨none,0,rfl,⟨Nat.le_refl _,Nat.zero_le _,fun i x hx=>by simp at hx⟩,by decide,by decide,by decide,by decide,by decide,by decide,by decide,by decide⟩
theorem DJ(l:List UInt8)(a:Int):I64 (if (fy l a).2.2=0 then(fy l a).1 else 0):=by
 split
 ·rename_i h;obtain⟨_,_,_,_,_,h⟩:=lq h;exact h
 ·decide
theorem x8{α:Type}{E:α→List Value→Prop}{P:Program}{h:H}{d sz et nb:Nat}{l:List SI}{e:Env}{K:Env→H→Prop}{u:Value}{b:Nat}{zs:List α}{zc cs:List Value}{L1 L2:List Kx.Item}{x:α}(hL:h.L=.row (.slice (some ⟨b,0,none⟩) 1 1) et sz 1 cs :: L1++.row u et sz zs.length zc :: L2)
  (hE:E x cs) (hl:cs.length=sz) (h1:∀ u∈cs,u.oneCell'=true) (hc:Cells E sz zs zc) (hz:zs.length≤1000000) (hnb:nb≤1000)
  (hk:∀ A' c' zc',Cells E sz (zs++[x]) zc'→kR P l d e K (.slice A' (zs++[x]).length c') ⟨h.G,.row (.slice (some ⟨b,0,none⟩) 1 1) et sz 1 cs :: L1++.row (.slice A' (zs++[x]).length c') et sz (zs++[x]).length zc' :: L2,h.D⟩) :
  apX P u (.slice (some ⟨b,0,none⟩) 1 1) et sz nb d l e h K:=by
 refine⟨.row (.slice (some ⟨b,0,none⟩) 1 1) et sz 1 cs :: L1,zs.length,zc,L2,1,cs,.inl hL,kZ (h:=h) (by rw[hL];exact .head _) h1 (by rw[hl,Nat.one_mul]),⟨?_,by unfold maxLen;omega⟩,fun A' c'=>?_⟩
 ·have:(zs.length+1) * nb≤1000001 * 1000:=Nat.mul_le_mul (by omega) hnb;omega
 ·have:=hk A' c' (zc++cs) (hc.app (.one hE hl));simp only[List.length_append,List.length_cons,List.length_nil,Nat.zero_add]at this;exact this
theorem CY(l:List UInt8)(a base stamp:Int):RR (getR l a base stamp).1 (gV (getR l a base stamp).1):=by
 have hz:RR kB (gV kB):=⟨rfl,⟨by decide,by decide⟩,by decide,by decide⟩;unfold getR;split
 ·split
  ·split
   ·rename_i h;obtain⟨⟨h1,h2⟩,h3,h4⟩:=fC h;simp[inO]at h1 h2;refine⟨rfl,⟨?_,?_⟩,?_,?_⟩
    ·dsimp only;unfold I64;omega
    ·dsimp only;unfold I64;omega
    ·dsimp only;unfold maxLen;omega
    ·dsimp only;unfold maxLen;omega
   ·exact hz
  ·exact hz
 ·exact hz
theorem CB(l:List UInt8)(a most:Int):0≤(li l a most).2.1:=by
 have:=mE l a;unfold li;split
 ·split
  ·simp
  ·split
   ·simp
   ·split
    ·simp
    ·dsimp only;omega
 ·simp
theorem CQ(l:List UInt8)(a base stamp:Int):0≤(getR l a base stamp).2.1:=by
 unfold getR;split
 ·split
  ·rename_i h5;split
   ·dsimp only;unfold g5 nx at h5 ⊢;split
    ·exact CB _ _ _
    ·rename_i h4;rw[if_neg h4]at h5;exact absurd h5 h4
   ·simp
  ·simp
 ·simp
set_option maxHeartbeats 2000000 in
theorem yJ(l:List UInt8)(v:Value)(G:Nat→Option Obj)(hl:SB G v l)(hb:l.length≤1000000):FnD Tryz.prog 198 #[v] G (se 15 l):=by
 refine F198.fnD (by simp) (dF ?_);have hl00:=hl;obtain⟨A,c,rfl,hc,hm,hA⟩:=hl;unfold c198;intros;refine gr 0 0 ?_;refine sJ c198r0.eq_1 ?_;intro b1 hb1;refine sI ?_;intro b3 hb3;refine sI ?_;intros;refine gr 0 0 ?_;refine sJ c198r1.eq_1 ?_;intro b4 hb4;refine sI ?_;refine dI [] [_,_,_] rfl (by simp) ⟨rfl,rfl⟩ ?_;refine sI ?_;intros;refine gr 0 0 ?_;refine sJ c198r2.eq_1 ?_
 refine dI [_] [_,_] rfl (by simp) ⟨rfl,rfl⟩ ?_;refine sI ?_;intros;refine gr 15 16 ?_;refine sJ c198r3.eq_1 ?_;intros;refine gr 0 0 ?_;refine sJ c198r4.eq_1 ?_;intro b6 hb6;refine sI ?_;intros;refine gr 0 0 ?_;refine sJ c198r5.eq_1 ?_;intros;refine gN ?_;refine ed (ec [_,_,_,_] []) ?_;rintro h' ⟨G1,rfl,hg1,hcell⟩
 have h1:eT G1 ⟨b1,0,none⟩=some (.slice A l.length c):=by have:=hcell 0 _ rfl;rwa [gA]at this
 clear hcell;have hl1:=SB.le hl00 hg1;refine dx (d7 (L':=[.blk b4 [.int .i64 0],.blk b3 [.bool true],.blk b6 (tg [0,0,0,0,0,0,0]),.reg 2 [.int .i64 0,.int .i64 0,.int .i64 0,.int .i64 0,.int .i64 0,.int .i64 0,.int .i64 0,.bool false,.int .i64 0,.slice none 0 0]]) ((List.Perm.swap _ _ _).trans (List.Perm.cons _ (List.Perm.swap _ _ _)))) ?_;have hrest:∀ (e:Env),True:=fun _=>trivial
 refine eA (fun e h=>∃ (ns:List Int) (a:Int) (ok:Bool),(ns.length=7∧(∀ z∈ns,I64 z)∧((ok=true∧0≤a∧nh l 7=some (ns,a.toNat))∨(ok=false∧nh l 7=none))) ∧
  (e 1=.pointer (some ⟨b1,0,none⟩)∧e 3=.pointer (some ⟨b3,0,none⟩)∧e 4=.pointer (some ⟨b4,0,none⟩)∧e 6=.pointer (some ⟨b6,0,none⟩)∧e 5=.func (.func 212) #[] #[.pointer (some ⟨b1,0,none⟩),.pointer (some ⟨b4,0,none⟩),.pointer (some ⟨b3,0,none⟩)]) ∧
  h=⟨G1,[.blk b4 [.int .i64 a],.blk b3 [.bool ok],.blk b6 (tg ns),.reg 2 [.int .i64 0,.int .i64 0,.int .i64 0,.int .i64 0,.int .i64 0,.int .i64 0,.int .i64 0,.bool false,.int .i64 0,.slice none 0 0]],[]⟩) ?_ ?_
 ·(intros;try refine du ?_)
  refine dW (fun e h=>∃ (k:Nat) (zs:List Int) (a:Int) (ok:Bool),(k≤7∧zs.length=7∧(∀ z∈zs,I64 z)∧((ok=true∧0≤a∧nh l k=some (zs.take k,a.toNat))∨(ok=false∧nh l 7=none)))∧e 16=.int .i64 k ∧
   e 1=.pointer (some ⟨b1,0,none⟩)∧e 3=.pointer (some ⟨b3,0,none⟩)∧e 4=.pointer (some ⟨b4,0,none⟩)∧e 6=.pointer (some ⟨b6,0,none⟩)∧e 5=.func (.func 212) #[] #[.pointer (some ⟨b1,0,none⟩),.pointer (some ⟨b4,0,none⟩),.pointer (some ⟨b3,0,none⟩)] ∧
   h=⟨G1,[.blk b4 [.int .i64 a],.blk b3 [.bool ok],.blk b6 (tg zs),.reg 2 [.int .i64 0,.int .i64 0,.int .i64 0,.int .i64 0,.int .i64 0,.int .i64 0,.int .i64 0,.bool false,.int .i64 0,.slice none 0 0]],[]⟩) (fun e h=>7 - iv (e 16)) ?_ ?_
  ·exact⟨0,[0,0,0,0,0,0,0],0,true,⟨Nat.zero_le _,rfl,by decide,.inl ⟨rfl,by omega,rfl⟩⟩,eE,eE,eE,eE,eE,eE,rfl⟩
  ·rintro e h ⟨k,zs,a,ok,⟨hk,hzl,hzi,hst⟩,e16,e1,e3,e4,e6,e5,rfl⟩;refine dz [1,3,4,5,6,16] ?_;refine sJ6 @e1 @e3 @e4 @e5 @e6 @e16 ?_;intros;refine gr 0 0 ?_;refine sJ c198r6.eq_1 ?_;intros;refine gc ?_;refine sI ?_;refine gb (fun ht=>?_) (fun ht=>?_)
   ·have hk7:k < 7:=by have:=of_decide_eq_true ht;omega
    have hw:=fz k 7 hk7 (by unfold maxLen;omega);have hi:=DJ l a;intros;refine gN ?_;intros;refine gr 18 19 ?_;refine sJ c198r7.eq_1 ?_;intros;refine gr 19 23 ?_;refine sJ c198r8.eq_1 ?_;refine .inl ⟨_,_,rfl,?_⟩;refine(mJ l a ok b1 b3 b4 _ G1 hl1 h1 _ []).mono ?_;rintro r h' ⟨G',L',rfl,-,rfl,rfl,rfl⟩;refine sI ?_;refine⟨by omega,?_⟩;rw[show 0+k * 1=k by omega]
    refine dI [_,_] [_] rfl (by simp[tg];omega) ⟨rfl,rfl⟩ ?_;simp only[List.cons_append,List.nil_append];rw[tF (by omega)];refine sI ?_;intros;refine gr 23 24 ?_;refine sJ2 c198r9.eq_1 @hw ?_
    (intros;try refine du ?_)
    refine eh ⟨⟨k+1,zs.set k (if (fy l a).2.2=0 then(fy l a).1 else 0),(if (fy l a).2.2=0 then(fy l a).2.1 else a),(if (fy l a).2.2=0 then ok else false),⟨by omega,by simp[hzl],fun z hz=>?_,?_⟩,eE,eE,eE,eE,eE,eE,rfl⟩,?_⟩
    ·rcases List.mem_or_eq_of_mem_set hz with h | h
     ·exact hzi z h
     ·rw[h];exact hi
    ·rcases hst with⟨h1,h2,h3⟩ | ⟨h1,h2⟩
     ·by_cases hv:(fy l a).2.2=0
      ·rw[if_pos hv,if_pos hv,if_pos hv];refine .inl ⟨h1,mE l a,?_⟩;rw[nh,h3,yM (by omega)];simp only[Option.bind_some];rw[Int.toNat_of_nonneg h2,if_pos hv]
      ·rw[if_neg hv,if_neg hv,if_neg hv];refine .inr ⟨rfl,?_⟩;have:nh l (k+1)=none:=by
        rw[nh,h3];simp only[Option.bind_some];rw[Int.toNat_of_nonneg h2,if_neg hv]
       have:=pu (7 - (k+1)) (k+1) this
       rwa [show k+1+(7 - (k+1))=7 by omega]at this
     ·refine .inr ⟨?_,h2⟩;rw[h1];split <;> rfl
    ·refine sI ?_;omega
   ·have hk7:k=7:=by have:=of_decide_eq_false ht;omega
    subst hk7;rw[List.take_of_length_le (by omega)]at hst;refine dT ?_;refine sI ?_;exact eh ⟨zs,a,ok,⟨hzl,hzi,hst⟩,⟨eE,eE,eE,eE,eE⟩,rfl⟩
 rintro e h ⟨ns,a,ok,⟨hnl,hni,hst⟩,⟨e1,e3,e4,e6,e5⟩,rfl⟩;refine dz [1,3,4,5,6] ?_;refine sJ5 @e1 @e3 @e4 @e5 @e6 ?_
 have hbad:∀ (fr:List Td) (e:Env) (a:Int) (ok:Bool),ff 15 l=none→e 3=.pointer (some ⟨b3,0,none⟩)→go none Tryz.prog 155 v198.1 v198.2 (fW o198 fun v h=>se 15 l h.G v) (Td.s ((SC.reg false c198r11).seq .ret) :: fr) e ⟨G1,[.blk b4 [.int .i64 a],.blk b3 [.bool ok],.blk b6 (tg ns),.reg 2 [.int .i64 0,.int .i64 0,.int .i64 0,.int .i64 0,.int .i64 0,.int .i64 0,.int .i64 0,.bool false,.int .i64 0,.slice none 0 0]],[]⟩:=fun fr e a ok hx e3=>by
  refine dz [3] ?_;refine sJ @e3 ?_;intros;refine gr 59 60 ?_;refine sJ c198r11.eq_1 ?_;refine dI [_] [_,_] rfl (by simp) ⟨rfl,rfl⟩ ?_;refine sI ?_
  (intros;try refine du ?_)
  refine dx (dD (L':=[.blk b3 [.bool false],.reg 2 [.int .i64 0,.int .i64 0,.int .i64 0,.int .i64 0,.int .i64 0,.int .i64 0,.int .i64 0,.bool false,.int .i64 0,.slice none 0 0]]) (.cons _ (.cons_cons _ (.cons _ (List.Sublist.refl _))))) ?_
  refine dC (jE (out:=[.agg #[.int .i64 0,.int .i64 0,.int .i64 0,.int .i64 0,.int .i64 0,.int .i64 0,.int .i64 0,.bool false,.int .i64 0,.slice none 0 0],.bool false]) ?_ ?_)
  ·simp[o198,l6,Kx.getR,getB,ud,ldC,Env.set]
  ·refine⟨_,_,false,rfl,BE.zero,?_⟩;exact hx
 obtain⟨n0,n1,n2,n3,n4,n5,n6,rfl⟩:∃ n0 n1 n2 n3 n4 n5 n6:Int,ns=[n0,n1,n2,n3,n4,n5,n6]:=by
  match ns,hnl with
  | [n0,n1,n2,n3,n4,n5,n6],_=>exact⟨n0,n1,n2,n3,n4,n5,n6,rfl⟩
 have m3:∀ {x y z u:Kx.Item} {L:List Kx.Item},z∈x :: y :: z :: u :: L:=.tail _ (.tail _ (.head _));have m2:∀ {x y z u:Kx.Item} {L:List Kx.Item},y∈x :: y :: z :: u :: L:=.tail _ (.head _);have hA1:=hA.le hg1 (E':=UE) fun _ _ h=>h
 unfold maxLen at hm;intros;try refine dv ?_
 refine eA (fun e h=>∃ (p:Nat) (m:UInt8),(nh l 7=some ([n0,n1,n2,n3,n4,n5,n6],p)∧l[p]?=some m∧m.toNat < 8∧(0≤n0∧n0≤1099511627776)∧0≤n1∧n1≤15) ∧
  (e 1=.pointer (some ⟨b1,0,none⟩)∧e 3=.pointer (some ⟨b3,0,none⟩)∧e 4=.pointer (some ⟨b4,0,none⟩)∧e 6=.pointer (some ⟨b6,0,none⟩)∧e 5=.func (.func 212) #[] #[.pointer (some ⟨b1,0,none⟩),.pointer (some ⟨b4,0,none⟩),.pointer (some ⟨b3,0,none⟩)]) ∧
  h=⟨G1,[.blk b4 [.int .i64 (p:Int)],.blk b3 [.bool true],.blk b6 (tg [n0,n1,n2,n3,n4,n5,n6]),.reg 2 [.int .i64 0,.int .i64 0,.int .i64 0,.int .i64 0,.int .i64 0,.int .i64 0,.int .i64 0,.bool false,.int .i64 0,.slice none 0 0]],[]⟩) ?_ ?_
 ·intros;refine gr 24 58 ?_;refine sJ c198r10.eq_1 ?_;refine⟨_,dE m2 rfl,?_⟩;refine sI ?_;refine gd (fun k0=>?_) (fun k0=>?_)
  ·have k0:ok=false:=by simpa using k0
   refine sI ?_;intros;refine gc ?_;refine sI ?_;rcases hst with⟨h,_⟩ | ⟨_,h⟩
   ·rw[h]at k0;cases k0
   ·refine hbad _ _ _ _ (by rw[ff,h];rfl) (eE)
  have k0:ok=true:=by simpa using k0
  subst k0;rcases hst with⟨-,ha,hnum⟩ | ⟨h,_⟩
  rotate_left
  ·cases h
  obtain⟨p,rfl⟩:∃ p:Nat,a=p:=⟨a.toNat,by omega⟩;rw[Int.toNat_natCast]at hnum;have hb2:mZ 15 l ([n0,n1,n2,n3,n4,n5,n6],p)=none→ff 15 l=none:=fun h=>by rw[ff,hnum];exact h
  refine sI ?_;refine⟨_,dE (.head _) rfl,?_⟩;refine sI ?_;refine⟨_,⟨_,rfl,.g h1⟩,?_⟩;refine sI ?_;refine gd (fun k1=>?_) (fun k1=>?_)
  ·have k1:=of_decide_eq_true k1;refine sI ?_;intros;refine gc ?_;refine sI ?_;refine hbad _ _ _ _ (hb2 ?_) (eE);rw[mZ,List.getElem?_eq_none (by dsimp only;omega)];rfl
  have k1:=of_decide_eq_false k1;obtain⟨m,hy⟩:∃ m,l[p]?=some m:=⟨l[p]'(by omega),List.getElem?_eq_getElem _⟩;have hb3:¬ (m.toNat < 8∧(0≤n0∧n0≤1099511627776)∧(0≤n1∧n1≤15))→ff 15 l=none:=fun h=>hb2 (by
   rw[mZ,hy]
   simp only[Option.bind_some]
   exact if_neg h)
  refine sI ?_;refine⟨_,⟨_,rfl,.g h1⟩,?_⟩;refine sI ?_;refine⟨_,dE (.head _) rfl,?_⟩;refine sI ?_;refine hA1.x_l1 hy rfl rfl ?_;rintro a1 ha1 u hu;cases hu;refine sI ?_;refine gd (fun k2=>?_) (fun k2=>?_)
  ·have k2:=of_decide_eq_true k2;refine sI ?_;intros;refine gc ?_;refine sI ?_;exact hbad _ _ _ _ (hb3 fun h=>by omega) (eE)
  have k2:=of_decide_eq_false k2;refine sI ?_;refine⟨by omega,?_⟩;refine⟨_,dE (o:=0) m3 rfl,?_⟩;refine sI ?_;refine gd (fun k3=>?_) (fun k3=>?_)
  ·have k3:=of_decide_eq_true k3;refine sI ?_;intros;refine gc ?_;refine sI ?_;exact hbad _ _ _ _ (hb3 fun h=>by omega) (eE)
  have k3:=of_decide_eq_false k3;refine sI ?_;refine⟨by omega,?_⟩;refine⟨_,dE (o:=0) m3 rfl,?_⟩;refine sI ?_;refine gd (fun k4=>?_) (fun k4=>?_)
  ·have k4:=of_decide_eq_true k4;refine sI ?_;intros;refine gc ?_;refine sI ?_;exact hbad _ _ _ _ (hb3 fun h=>by omega) (eE)
  have k4:=of_decide_eq_false k4;refine sI ?_;refine⟨by omega,?_⟩;refine⟨_,dE (o:=1) m3 rfl,?_⟩;refine sI ?_;refine gd (fun k5=>?_) (fun k5=>?_)
  ·have k5:=of_decide_eq_true k5;refine sI ?_;intros;refine gc ?_;refine sI ?_;exact hbad _ _ _ _ (hb3 fun h=>by omega) (eE)
  have k5:=of_decide_eq_false k5;refine sI ?_;refine⟨by omega,?_⟩;refine⟨_,dE (o:=1) m3 rfl,?_⟩;refine sI ?_;intros;refine gc ?_;refine sI ?_;refine gb (fun k6=>?_) (fun k6=>?_)
  ·have k6:=of_decide_eq_true k6;exact hbad _ _ _ _ (hb3 fun h=>by omega) (eE)
  have k6:=of_decide_eq_false k6
  (intros;try refine du ?_)
  exact eh ⟨p,m,⟨hnum,hy,by omega,by omega,by omega,by omega⟩,⟨eE,eE,eE,eE,eE⟩,rfl⟩
 clear hbad hst;rintro e h ⟨p,m,⟨hnum,hy,hm8,hn0,hn1,hn1'⟩,⟨e1,e3,e4,e6,e5⟩,rfl⟩;have hpl:=(List.getElem?_eq_some_iff.1 hy).1;have hb3:ff 15 l=mV l [n0,n1,n2,n3,n4,n5,n6] m (fy l ((p:Int)+1)):=by
  rw[ff,hnum];simp only[Option.bind_some];rw[mZ,hy];simp only[Option.bind_some];exact if_pos ⟨hm8,hn0,hn1,hn1'⟩
 refine dz [1,3,4,5,6] ?_;refine sJ5 @e1 @e3 @e4 @e5 @e6 ?_;have wp:=fz p l.length hpl (by unfold maxLen;omega);have wl:IntKind.i64.wrap (n0+n1)=n0+n1:=by rw[dU] <;> omega
 intros;refine gr 60 64 ?_;refine sJ c198r12.eq_1 ?_;refine⟨_,⟨_,rfl,.g h1⟩,?_⟩;refine sI ?_;refine⟨_,dE (.head _) rfl,?_⟩;refine sI ?_;refine hA1.x_l1 hy rfl rfl ?_;rintro a1 ha1 u hu;cases hu;refine sI ?_;intros;refine gr 64 66 ?_;refine sJ c198r13.eq_1 ?_;refine⟨_,dE (.head _) rfl,?_⟩;refine sJ @wp ?_;refine dI [] [_,_,_] rfl (by simp) ⟨rfl,rfl⟩ ?_;refine sI ?_
 intros;refine gr 66 90 ?_;refine sJ c198r14.eq_1 ?_;refine⟨by omega,?_⟩;refine⟨_,dE (o:=0) m3 rfl,?_⟩;refine sI ?_;refine⟨by omega,?_⟩;refine⟨_,dE (o:=0) m3 rfl,?_⟩;refine sI ?_;refine⟨by omega,?_⟩;refine⟨_,dE (o:=1) m3 rfl,?_⟩;refine sJ @wl ?_;refine⟨by omega,?_⟩;refine⟨_,dE (o:=2) m3 rfl,?_⟩;refine sI ?_;refine⟨by omega,?_⟩;refine⟨_,dE (o:=3) m3 rfl,?_⟩;refine sI ?_;refine⟨by omega,?_⟩
 refine⟨_,dE (o:=4) m3 rfl,?_⟩;refine sI ?_;refine⟨by omega,?_⟩;refine⟨_,dE (o:=5) m3 rfl,?_⟩;refine sI ?_;refine⟨by omega,?_⟩;refine⟨_,dE (o:=6) m3 rfl,?_⟩;have htx:decide ((if 4≤m.toNat then(4:Int)else 0)≠0)=decide (4≤m.toNat):=by split <;> simp_all
 have hct:IntKind.i64.wrap ((m.toNat % 4:Nat):Int)=((m.toNat % 4:Nat):Int):=by rw[dU] <;> omega
 have hmk:∀ rs,mkB [n0,n1,n2,n3,n4,n5,n6] m rs=⟨n0,n0+n1,n2,n3,n4,n5,n6,decide (4≤m.toNat),((m.toNat % 4:Nat):Int),rs⟩:=fun _=>rfl
 have hcti:I64 ((m.toNat % 4:Nat):Int):=by unfold I64;omega
 generalize decide (4≤m.toNat)=tx at htx hmk;have han:=zt hm8;generalize ((m.toNat % 4:Nat):Int)=ct at hct hmk hcti han
 (try simp -implicitDefEqProofs only[oY,oZ,push_cast,Nat.reduceBEq,Nat.reduceAdd,Nat.reduceSub,Nat.reduceMul,Nat.reduceLT,Nat.reduceLeDiff,Nat.reduceEqDiff,reduceIte,Bool.not_true,Bool.not_false,true_and,and_true,Option.map_some,Option.bind_some,Int.toNat_natCast,Ii hm8,han,htx,hct])
 have m2':∀ {x y z u:Kx.Item} {L:List Kx.Item},y∈x :: y :: z :: u :: L:=.tail _ (.head _);have hi7:I64 n0∧I64 (n0+n1)∧I64 n2∧I64 n3∧I64 n4∧I64 n5∧I64 n6:=⟨hni _ (by simp),by unfold I64;omega,hni _ (by simp),hni _ (by simp),hni _ (by simp),hni _ (by simp),hni _ (by simp)⟩
 -- how many records
 intros;refine gr 90 92 ?_;refine sJ c198r15.eq_1 ?_;refine .inl ⟨_,_,rfl,?_⟩;refine(mJ l ((p:Int)+1) true b1 b3 b4 _ G1 hl1 h1 _ []).mono ?_;rintro r h' ⟨G',L',rfl,-,rfl,rfl,rfl⟩;have hvok:=@lq l ((p:Int)+1);generalize fy l ((p:Int)+1)=v at hb3 hvok;refine sI ?_
 have hbad:∀ (fr:List Td) (e:Env) (a:Int) (ok:Bool),ff 15 l=none→e 3=.pointer (some ⟨b3,0,none⟩)→go none Tryz.prog 155 v198.1 v198.2 (fW o198 fun v h=>se 15 l h.G v) (Td.s ((SC.reg false c198r17).seq .ret) :: fr) e ⟨G1,[.blk b4 [.int .i64 a],.blk b3 [.bool ok],.blk b6 (tg [n0,n1,n2,n3,n4,n5,n6]),.reg 2 [.int .i64 n0,.int .i64 (n0+n1),.int .i64 n2,.int .i64 n3,.int .i64 n4,.int .i64 n5,.int .i64 n6,.bool tx,.int .i64 ct,.slice none 0 0]],[]⟩:=fun fr e a ok hx e3=>by
  refine dz [3] ?_;refine sJ @e3 ?_;intros;refine gr 102 103 ?_;refine sJ c198r17.eq_1 ?_;refine dI [_] [_,_] rfl (by simp) ⟨rfl,rfl⟩ ?_;refine sI ?_
  (intros;try refine du ?_)
  refine dx (dD (L':=[.blk b3 [.bool false],.reg 2 [.int .i64 0,.int .i64 0,.int .i64 0,.int .i64 0,.int .i64 0,.int .i64 0,.int .i64 0,.bool false,.int .i64 0,.slice none 0 0]]) (.cons _ (.cons_cons _ (.cons _ (List.Sublist.refl _))))) ?_
  refine dC (jE (out:=[.agg #[.int .i64 0,.int .i64 0,.int .i64 0,.int .i64 0,.int .i64 0,.int .i64 0,.int .i64 0,.bool false,.int .i64 0,.slice none 0 0],.bool false]) ?_ ?_)
  ·simp[o198,l6,Kx.getR,getB,ud,ldC,Env.set]
  ·exact⟨_,_,false,rfl,BE.zero,hx⟩
 intros;try refine dv ?_
 refine eA (fun e h=>(v.2.2=0∧0≤v.1∧v.1≤16)∧(e 1=.pointer (some ⟨b1,0,none⟩)∧e 3=.pointer (some ⟨b3,0,none⟩)∧e 4=.pointer (some ⟨b4,0,none⟩)∧e 5=.func (.func 212) #[] #[.pointer (some ⟨b1,0,none⟩),.pointer (some ⟨b4,0,none⟩),.pointer (some ⟨b3,0,none⟩)])∧e 9=.int .i64 v.1∧h=⟨G1,[.blk b4 [.int .i64 v.2.1],.blk b3 [.bool true],.blk b6 (tg [n0,n1,n2,n3,n4,n5,n6]),.reg 2 [.int .i64 n0,.int .i64 (n0+n1),.int .i64 n2,.int .i64 n3,.int .i64 n4,.int .i64 n5,.int .i64 n6,.bool tx,.int .i64 ct,.slice none 0 0]],[]⟩) ?_ ?_
 ·by_cases hv0:v.2.2=0
  ·have hbn:¬ (0≤v.1∧v.1≤16)→ff 15 l=none:=fun h=>by rw[hb3,mV,if_neg fun hc=>h hc.2]
   rw[if_pos hv0,if_pos hv0,if_pos hv0];intros;refine gr 92 101 ?_;refine sJ c198r16.eq_1 ?_;refine⟨_,dE m2' rfl,?_⟩;refine sI ?_;refine gd (fun k1=>?_) (fun k1=>?_)
   ·have k1:=of_decide_eq_true k1;refine sI ?_;intros;refine gc ?_;refine sI ?_;exact hbad _ _ _ _ (hbn fun h=>by omega) (eE)
   have k1:=of_decide_eq_false k1;refine sI ?_;intros;refine gc ?_;refine sI ?_;refine gb (fun k2=>?_) (fun k2=>?_)
   ·have k2:=of_decide_eq_true k2;exact hbad _ _ _ _ (hbn fun h=>by omega) (eE)
   have k2:=of_decide_eq_false k2
   (intros;try refine du ?_)
   exact eh ⟨⟨hv0,by omega,by omega⟩,⟨eE,eE,eE,eE⟩,eE,rfl⟩
  ·rw[if_neg hv0,if_neg hv0,if_neg hv0];intros;refine gr 92 101 ?_;refine sJ c198r16.eq_1 ?_;refine⟨_,dE m2' rfl,?_⟩;refine sI ?_;intros;refine gc ?_;refine sI ?_;exact hbad _ _ _ _ (by rw[hb3,mV,if_neg fun hc=>hv0 hc.1]) (eE)
 clear hbad;rintro e h ⟨⟨hv0,hv1,hv2⟩,⟨e1,e3,e4,e5⟩,e9,rfl⟩;obtain⟨many,hmany⟩:∃ n:Nat,v.1=n:=⟨v.1.toNat,by omega⟩;obtain⟨pv,-,hv21,-,hpv,-⟩:=hvok hv0;rw[hmany]at e9;have hpn:0≤v.2.1:=by omega
 have hb4:ff 15 l=pt l [n0,n1,n2,n3,n4,n5,n6] m many (if 0 < many then fy l v.2.1 else(0,v.2.1,0)):=by
  rw[hb3,mV,if_pos ⟨hv0,hv1,hv2⟩,hmany];simp only[Int.toNat_natCast];congr 1;by_cases h:0 < many
  ·rw[if_pos h,if_pos (by omega)]
  ·rw[if_neg h,if_neg (by omega)]
 refine dz [1,3,4,5,9] ?_;refine sJ5 @e1 @e3 @e4 @e5 @e9 ?_;have hmany16:many≤16:=by omega
 generalize v.2.1=p2 at hb4 hpn;clear hb3 hvok hv21 hpv;intros;refine gr 0 0 ?_;refine sJ c198r18.eq_1 ?_;intros;try refine dv ?_
 refine eA (fun e h=>∃ (s:Int × Int × Int),(s=(if 0 < many then fy l p2 else(0,p2,0)))∧(e 1=.pointer (some ⟨b1,0,none⟩)∧e 3=.pointer (some ⟨b3,0,none⟩)∧e 4=.pointer (some ⟨b4,0,none⟩)∧e 5=.func (.func 212) #[] #[.pointer (some ⟨b1,0,none⟩),.pointer (some ⟨b4,0,none⟩),.pointer (some ⟨b3,0,none⟩)])∧e 9=.int .i64 (many:Int)∧e 10=.int .i64 (if s.2.2=0 then s.1 else 0)∧h=⟨G1,[.blk b4 [.int .i64 (if s.2.2=0 then s.2.1 else p2)],.blk b3 [.bool (if s.2.2=0 then true else false)],.blk b6 (tg [n0,n1,n2,n3,n4,n5,n6]),.reg 2 [.int .i64 n0,.int .i64 (n0+n1),.int .i64 n2,.int .i64 n3,.int .i64 n4,.int .i64 n5,.int .i64 n6,.bool tx,.int .i64 ct,.slice none 0 0]],[]⟩) ?_ ?_
 ·intros;refine gr 103 104 ?_;refine sJ c198r19.eq_1 ?_;intros;refine gc ?_;refine sI ?_;refine gb (fun k1=>?_) (fun k1=>?_)
  ·have k1:=of_decide_eq_true k1;intros;refine gr 105 107 ?_;refine sJ c198r20.eq_1 ?_;refine .inl ⟨_,_,rfl,?_⟩;refine(mJ l p2 true b1 b3 b4 _ G1 hl1 h1 _ []).mono ?_;rintro r h' ⟨G',L',rfl,-,rfl,rfl,rfl⟩;refine sI ?_
   (intros;try refine du ?_)
   exact eh ⟨fy l p2,by rw[if_pos (by omega)],⟨eE,eE,eE,eE⟩,eE,eE,rfl⟩
  ·have k1:=of_decide_eq_false k1
   (intros;try refine du ?_)
   exact eh ⟨(0,p2,0),by rw[if_neg (by omega)],⟨eE,eE,eE,eE⟩,eE,eE,rfl⟩
 rintro e h ⟨s,hs,⟨e1,e3,e4,e5⟩,e9,e10,rfl⟩;rw[← hs]at hb4;have hsn:0≤s.2.1:=by
  rw[hs];split
  ·exact mE _ _
  ·exact hpn
 clear hs;refine dz [1,3,4,9,10] ?_;refine sJ5 @e1 @e3 @e4 @e9 @e10 ?_;have hb5:ff 15 l=if s.2.2=0 then(gX l n0 s.1 s.2.1.toNat many).bind fun r=>if r.2=l.length∧yK r.1 s.1=true then some (mkB [n0,n1,n2,n3,n4,n5,n6] m r.1)else none else none:=hb4
 clear hb4;obtain⟨st,hst⟩:∃ st,st=(if s.2.2=0 then s.1 else 0):=⟨_,rfl⟩;rw[← hst];intros;refine gr 0 0 ?_;refine sJ c198r21.eq_1 ?_;intros
 refine dx (dD (L':=[.blk b4 [.int .i64 (if s.2.2=0 then s.2.1 else p2)],.blk b3 [.bool (if s.2.2=0 then true else false)],.reg 2 [.int .i64 n0,.int .i64 (n0+n1),.int .i64 n2,.int .i64 n3,.int .i64 n4,.int .i64 n5,.int .i64 n6,.bool tx,.int .i64 ct,.slice none 0 0]]) (.cons_cons _ (.cons_cons _ (.cons _ (List.Sublist.refl _))))) ?_;refine dx (dR none 103 5) ?_
 refine eA (fun e h=>∃ (rs:List Rec) (a:Int) (ok:Bool) (u:Value) (zc:List Value) (G':Nat→Option Obj),((ok=true∧s.2.2=0∧gX l n0 s.1 s.2.1.toNat many=some (rs,a.toNat)∧0≤a∧yK rs s.1=true)∨(ok=false∧ff 15 l=none))∧(rs.length≤16∧Gle G1 G'∧Cells RR 5 rs zc) ∧
  (e 1=.pointer (some ⟨b1,0,none⟩)∧e 3=.pointer (some ⟨b3,0,none⟩)∧e 4=.pointer (some ⟨b4,0,none⟩))∧h=⟨G',[.row u 103 5 rs.length zc,.blk b4 [.int .i64 a],.blk b3 [.bool ok],.reg 2 [.int .i64 n0,.int .i64 (n0+n1),.int .i64 n2,.int .i64 n3,.int .i64 n4,.int .i64 n5,.int .i64 n6,.bool tx,.int .i64 ct,u]],[]⟩) ?_ ?_
 ·(intros;try refine du ?_)
  refine dW (fun e h=>∃ (k:Nat) (rs:List Rec) (a:Int) (ok:Bool) (u:Value) (zc:List Value) (G':Nat→Option Obj),(k≤many∧rs.length=k∧Gle G1 G'∧Cells RR 5 rs zc∧((ok=true∧s.2.2=0∧gX l n0 s.1 s.2.1.toNat k=some (rs,a.toNat)∧0≤a∧yK rs s.1=true)∨(ok=false∧ff 15 l=none))) ∧
   e 1=.pointer (some ⟨b1,0,none⟩)∧e 3=.pointer (some ⟨b3,0,none⟩)∧e 4=.pointer (some ⟨b4,0,none⟩)∧e 9=.int .i64 (many:Int)∧e 10=.int .i64 st∧e 11=.int .i64 k∧h.G=G'∧h.D=[]∧[.row u 103 5 rs.length zc,.blk b4 [.int .i64 a],.blk b3 [.bool ok],.reg 2 [.int .i64 n0,.int .i64 (n0+n1),.int .i64 n2,.int .i64 n3,.int .i64 n4,.int .i64 n5,.int .i64 n6,.bool tx,.int .i64 ct,u]].Sublist h.L) (fun e h=>many - iv (e 11)) ?_ ?_
  ·refine⟨0,[],_,_,_,[],G1,⟨Nat.zero_le _,rfl,.refl _,.nil,?_⟩,eE,eE,eE,eE,eE,eE,rfl,rfl,List.Sublist.refl _⟩;by_cases h:s.2.2=0
   ·rw[if_pos h,if_pos h];exact .inl ⟨rfl,h,rfl,hsn,rfl⟩
   ·rw[if_neg h,if_neg h];exact .inr ⟨rfl,by rw[hb5,if_neg h]⟩
  ·rintro e ⟨G',L,D⟩ ⟨k,rs,a,ok,u,zc,G2,⟨hk,hrl,hgg,hcs,hor⟩,e1,e3,e4,e9,e10,e11,hG,hD,hL⟩;dsimp only at hG hD hL;subst hG hD;refine dx (dD hL) ?_;refine dz [1,3,4,9,10,11] ?_;refine sJ6 @e1 @e3 @e4 @e9 @e10 @e11 ?_;intros;refine gr 107 112 ?_;refine sJ c198r22.eq_1 ?_;refine gd (fun k1=>?_) (fun k1=>?_);rotate_left
   ·have k1:k=many:=by have:=of_decide_eq_false k1;omega
    subst k1;refine sI ?_;intros;refine gc ?_;refine sI ?_;refine dT ?_;refine sI ?_;exact eh ⟨rs,a,ok,u,zc,G',hor,⟨by omega,hgg,hcs⟩,⟨eE,eE,eE⟩,rfl⟩
   have k1:k < many:=by have:=of_decide_eq_true k1;omega
   refine sI ?_;refine⟨_,dE (.tail _ (.tail _ (.head _))) rfl,?_⟩;refine sI ?_;intros;refine gc ?_;refine sI ?_;refine gb (fun k2=>?_) (fun k2=>?_);rotate_left
   ·rcases hor with⟨h,-⟩ | ⟨_,h⟩
    ·rw[h]at k2;cases k2
    refine dT ?_;refine sI ?_;exact eh ⟨rs,a,ok,u,zc,G',.inr ⟨k2,h⟩,⟨by omega,hgg,hcs⟩,⟨eE,eE,eE⟩,rfl⟩
   subst k2;rcases hor with⟨-,hs0,hrg,ha,hso⟩ | ⟨h,_⟩
   rotate_left
   ·cases h
   rw[if_pos hs0]at hst;subst hst;have hw:=fz k many k1 (by unfold maxLen;omega);obtain⟨pa,rfl⟩:∃ n:Nat,a=n:=⟨a.toNat,by omega⟩;rw[Int.toNat_natCast]at hrg;have hrec:=C7 l pa n0 s.1 _ G' (SB.le hl1 hgg);have hrr:=CY l pa n0 s.1;have hnxt:gX l n0 s.1 s.2.1.toNat (k+1)=if (getR l pa n0 s.1).2.2=0 then some (rs++[(getR l pa n0 s.1).1],(getR l pa n0 s.1).2.1.toNat)else none:=by
    rw[gX,hrg];rfl
   have hnn:=CQ l pa n0 s.1;generalize getR l pa n0 s.1=q at hrec hrr hnxt hnn;obtain⟨r,nx,er⟩:=q;dsimp only at hrr hnxt hrec hnn;have hrr0:=hrr.1;unfold gV at hrec hrr;intros;refine gN ?_;intros;refine gr 115 125 ?_;refine sJ c198r23.eq_1 ?_;refine⟨_,⟨_,rfl,.g (dJ hgg h1)⟩,?_⟩;refine sI ?_;refine⟨_,dE (.tail _ (.head _)) rfl,?_⟩;refine sI ?_;refine(hrec _ _).mono ?_;rintro r h' ⟨rfl,rfl⟩
   refine sI ?_;intros;try refine dv ?_
   refine eA (fun e h=>(e 1=.pointer (some ⟨b1,0,none⟩)∧e 3=.pointer (some ⟨b3,0,none⟩)∧e 4=.pointer (some ⟨b4,0,none⟩))∧(e 9=.int .i64 (many:Int)∧e 10=.int .i64 s.1∧e 11=.int .i64 k∧e 13=.int .i64 nx)∧h=⟨G',[.reg 12 [.int .i64 r.off,.string r.key,.string r.val,.bool r.dead,.int .i64 r.stamp],.row u 103 5 rs.length zc,.blk b4 [.int .i64 (pa:Int)],.blk b3 [.bool (decide (er=0) && (decide (0 < k) || decide (r.stamp=s.1)))],.reg 2 [.int .i64 n0,.int .i64 (n0+n1),.int .i64 n2,.int .i64 n3,.int .i64 n4,.int .i64 n5,.int .i64 n6,.bool tx,.int .i64 ct,u]],[]⟩) ?_ ?_
   ·intros;refine gr 125 140 ?_;refine sJ c198r24.eq_1 ?_;refine⟨_,dE (.tail _ (.tail _ (.tail _ (.head _)))) rfl,?_⟩;refine sI ?_;refine gd (fun k2=>?_) (fun k2=>?_)
    ·have k3:=of_decide_eq_true k2;refine sI ?_;refine gd (fun k4=>?_) (fun k4=>?_)
     ·have k5:=of_decide_eq_true k4;refine sI ?_;refine dI [_,_,_] [_] rfl (by simp) ⟨rfl,rfl⟩ ?_;refine sI ?_
      (intros;try refine du ?_)
      refine eh ⟨⟨eE,eE,eE⟩,⟨eE,eE,eE,eE⟩,?_⟩;rw[decide_eq_true k3,decide_eq_true (show 0 < k by omega)];rfl
     ·have k5:=of_decide_eq_false k4;refine sI ?_;refine dI [_,_,_] [_] rfl (by simp) ⟨rfl,rfl⟩ ?_;refine sI ?_
      (intros;try refine du ?_)
      refine eh ⟨⟨eE,eE,eE⟩,⟨eE,eE,eE,eE⟩,?_⟩;rw[decide_eq_true k3,decide_eq_false (show ¬ 0 < k by omega)];rfl
    ·have k3:=of_decide_eq_false k2;refine sI ?_;refine dI [_,_,_] [_] rfl (by simp) ⟨rfl,rfl⟩ ?_;refine sI ?_
     (intros;try refine du ?_)
     refine eh ⟨⟨eE,eE,eE⟩,⟨eE,eE,eE,eE⟩,?_⟩;rw[decide_eq_false k3];rfl
   rintro e h ⟨⟨e1,e3,e4⟩,⟨e9,e10,e11,e13⟩,rfl⟩;refine dz [1,3,4,9,10,11,13] ?_;refine sJ7 @e1 @e3 @e4 @e9 @e10 @e11 @e13 ?_;have hok:∀ (j:Nat),j=k→((decide (er=0) && (decide (0 < k) || decide (r.stamp=s.1)))=true∧s.2.2=0∧gX l n0 s.1 s.2.1.toNat (k+1)=some (rs++[r],nx.toNat)∧0≤nx∧yK (rs++[r]) s.1=true)∨((decide (er=0) && (decide (0 < k) || decide (r.stamp=s.1)))=false∧ff 15 l=none):=fun j _=>by
    by_cases h0:er=0
    ·rw[if_pos h0]at hnxt;by_cases h1:0 < k
     ·refine .inl ⟨by simp[h0,h1],hs0,hnxt,hnn,?_⟩
      match rs,hrl,hso with
      | x :: xs,_,hso=>exact hso
      | [],hrl,_=>simp at hrl;omega
     ·have hk0:k=0:=by omega
      have hrs:rs=[]:=List.eq_nil_of_length_eq_zero (by omega);subst hrs;by_cases h2:r.stamp=s.1
      ·refine .inl ⟨by simp[h0,h2],hs0,hnxt,hnn,by simp[yK,h2]⟩
      ·refine .inr ⟨by simp[h0,h1,h2],?_⟩;rw[hb5,if_pos hs0];cases hrm:gX l n0 s.1 s.2.1.toNat many with
       | none=>rfl
       | some q =>
        simp only[Option.bind_some];have hpre:=wx hrm (k+1) (by omega);rw[hnxt]at hpre;obtain⟨q2,hq,t,ht⟩:=hpre;cases hq;refine if_neg fun hc=>?_
        rw[ht]at hc;have:=hc.2;simp[yK,h2]at this
    ·rw[if_neg h0]at hnxt;refine .inr ⟨by simp[h0],?_⟩;have:=nG (many - (k+1)) (k+1) hnxt;rw[show k+1+(many - (k+1))=many by omega]at this;rw[hb5,if_pos hs0,this];rfl
   have hok:=hok k rfl;generalize (decide (er=0) && (decide (0 < k) || decide (r.stamp=s.1)))=ok at hok ⊢;intros;refine gr 140 141 ?_;refine sJ c198r25.eq_1 ?_;refine dI [_,_] [_,_] rfl (by simp) ⟨rfl,rfl⟩ ?_;refine sI ?_;intros;refine gr 142 146 ?_;refine sJ c198r26.eq_1 ?_;intro bk hbk
   refine x8 (L1:=[_]) (L2:=[_,_,_]) (E:=RR) (x:=r) rfl hrr rfl (by simp[Value.oneCell']) hcs (by omega) (by omega) fun A' c' zc' hzc=>?_
   refine sI ?_;intros;refine gr 113 115 ?_;refine sJ2 c198r27.eq_1 @hw ?_
   (intros;try refine du ?_)
   refine eh ⟨⟨k+1,rs++[r],nx,ok,_,zc',G',⟨by omega,by simp[hrl],hgg,hzc,hok⟩,eE,eE,eE,eE,eE,eE,rfl,rfl,.cons _ (.cons _ (List.Sublist.refl _))⟩,?_⟩;refine sI ?_;omega
 rintro e h ⟨rs,a,ok,u,zc,G',hor,⟨hrl,hgg,hcs⟩,⟨e1,e3,e4⟩,rfl⟩;refine dz [1,3,4] ?_;refine sJ3 @e1 @e3 @e4 ?_;intros;refine ed (dQ [] _ (by decide) hcs) ?_;rintro h' ⟨G2,rfl,hg2,B,d,rfl,hd1,hd2,hB⟩;refine dx (d7 (.swap _ _ _)) ?_;have h12:=dJ (hgg.trans hg2) h1
 have hfin:∀ (t:Bool),(if t=true then ff 15 l=some ⟨n0,n0+n1,n2,n3,n4,n5,n6,tx,ct,rs⟩else ff 15 l=none)→se 15 l G2 (.tuple #[.agg #[.int .i64 n0,.int .i64 (n0+n1),.int .i64 n2,.int .i64 n3,.int .i64 n4,.int .i64 n5,.int .i64 n6,.bool tx,.int .i64 ct,.slice B rs.length d],.bool t]):=fun t ht =>
  ⟨⟨n0,n0+n1,n2,n3,n4,n5,n6,tx,ct,rs⟩,_,t,rfl,⟨B,d,rfl,⟨hd1,hd2,hB⟩,hi7.1,hi7.2.1,hi7.2.2.1,hi7.2.2.2.1,hi7.2.2.2.2.1,hi7.2.2.2.2.2.1,hi7.2.2.2.2.2.2,hcti⟩,ht⟩
 rcases hor with⟨rfl,hs0,hrg,ha,hso⟩ | ⟨rfl,hno⟩
 ·(intros;try refine du ?_);refine qm _ (List.Sublist.refl _) (by decide) ?_;refine sJ c198r28.eq_1 ?_
  refine⟨_,dE (.head _) rfl,?_⟩;refine sI ?_;refine⟨_,dE (.tail _ (.head _)) rfl,?_⟩;refine sI ?_;refine⟨_,⟨_,rfl,.g h12⟩,?_⟩;refine sI ?_;refine dI [] [_,_] rfl (by simp) ⟨rfl,rfl⟩ ?_;refine sI ?_
  (intros;try refine du ?_)
  refine dC (jE (out:=[.agg #[.int .i64 n0,.int .i64 (n0+n1),.int .i64 n2,.int .i64 n3,.int .i64 n4,.int .i64 n5,.int .i64 n6,.bool tx,.int .i64 ct,.slice B rs.length d],.bool (decide (a=(l.length:Int)))]) ?_ ?_)
  ·simp[o198,l6,Kx.getR,getB,ud,ldC,Env.set]
  ·refine hfin _ ?_;rw[hb5,if_pos hs0,hrg];simp only[Option.bind_some];by_cases h:a=(l.length:Int)
   ·rw[if_pos (decide_eq_true h),if_pos ⟨by omega,hso⟩,hmk]
   ·rw[if_neg (by simpa using h),if_neg (fun hc=>h (by omega))]
 ·(intros;try refine du ?_);refine qm _ (List.Sublist.refl _) (by decide) ?_;refine sJ c198r28.eq_1 ?_
  refine⟨_,dE (.head _) rfl,?_⟩;refine sI ?_;refine dI [] [_,_] rfl (by simp) ⟨rfl,rfl⟩ ?_;refine sI ?_
  (intros;try refine du ?_)
  refine dC (jE (out:=[.agg #[.int .i64 n0,.int .i64 (n0+n1),.int .i64 n2,.int .i64 n3,.int .i64 n4,.int .i64 n5,.int .i64 n6,.bool tx,.int .i64 ct,.slice B rs.length d],.bool false]) ?_ ?_)
  ·simp[o198,l6,Kx.getR,getB,ud,ldC,Env.set]
  ·exact hfin false hno
theorem F178:Fun Tryz.prog 178 68 v178 c178 o178:=Fun.mkA Tryz.func178 Tryz.ntmps178
def kj:Batch:=⟨0,0,0,0,0,0,0,false,0,[]⟩
def wR(w:Int)(l:List UInt8):Option Batch:=(ff w l).bind fun x=>if fp x=0 then some x else none
def getB(l:List UInt8)(a:Int):Batch × Int × Int :=
 if (jk l a 4).2=0 then
  if 5≤(jk l a 4).1∧(jk l a 4).1≤2044 then
   if (jk l a 4).1≤(l.drop (a.toNat+4)).length then
    if (iM ((l.drop (a.toNat+4)).take (jk l a 4).1)).2=0 then
     match wR 15 (iM ((l.drop (a.toNat+4)).take (jk l a 4).1)).1 with
     | none=>(kj,0,11)
     | some x=>(x,((a.toNat+4+(jk l a 4).1:Nat):Int),0)
    else(kj,0,(iM ((l.drop (a.toNat+4)).take (jk l a 4).1)).2)
   else(kj,0,10)
  else(kj,0,11)
 else(kj,0,(jk l a 4).2)
def yk(l:List UInt8)(a:Int)(G:Nat→Option Obj)(r:Value):Prop:=∃ cs,r=.tuple #[.agg cs.toArray,.int .i64 (getB l a).2.1,.int .i64 (getB l a).2.2]∧BE G (getB l a).1 cs
theorem vJ{l:List UInt8}{a:Int}{k:Nat}(h:(jk l a k).2=0):0≤a∧a.toNat+k≤l.length∨(k=0):=by
 unfold jk at h;split at h
 ·cases h
 ·split at h
  ·cases h
  ·rename_i h1 h2;by_cases hk:k=0
   ·exact .inr hk
   ·left;simp at h2;omega
theorem Cb{l:List UInt8}{a:Int}:(jk l a 4).1 < 4294967296:=by
 unfold jk;split
 ·decide
 ·split
  ·decide
  ·have:=uO ((l.drop a.toNat).take 4);have h2:256 ^ ((l.drop a.toNat).take 4).length≤256 ^ 4:=Nat.pow_le_pow_right (by decide) (by simp;omega);omega
theorem vT(l:List UInt8):(iM l).1.length≤l.length:=by
 unfold iM;split
 ·simp
 ·split
  ·simp
  ·simp
theorem pU{w:Int}{l:List UInt8}{x:Batch}(h:ff w l=some x)(h0:fp x=0):wR w l=some x:=by rw[wR,h];exact if_pos h0
theorem zn{w:Int}{l:List UInt8}{x:Batch}(h:ff w l=some x)(h0:¬ fp x=0):wR w l=none:=by rw[wR,h];exact if_neg h0
theorem uk{w:Int}{l:List UInt8}(h:ff w l=none):wR w l=none:=by rw[wR,h];rfl
set_option maxHeartbeats 2000000 in
theorem Ba(l:List UInt8)(a:Int)(v:Value)(G:Nat→Option Obj)(hl:SB G v l)(hb:l.length≤1000000):FnD Tryz.prog 178 #[v,.int .i64 a] G (yk l a):=by
 have hl0:=hl;obtain⟨A,c,rfl,hc,hm,hA⟩:=hl;unfold maxLen at hm;refine F178.fnD (by simp) (dF ?_);unfold c178;have hng:=wk l a 4 (by omega) _ G hl0;have hnk:=@vJ l a 4;have hnl:=@Cb l a;intros;refine gr 0 0 ?_;refine sJ c178r0.eq_1 ?_;intros;refine gr 11 17 ?_;refine sJ c178r1.eq_1 ?_;refine(hng _ _).mono ?_;rintro _ _ ⟨rfl,rfl⟩;refine sI ?_;intros;refine gr 17 18 ?_;refine sJ c178r2.eq_1 ?_
 intros;refine gc ?_;refine sI ?_;refine gb (fun k1=>?_) (fun k1=>?_)
 ·have k1:=of_decide_eq_true k1;intros;refine gr 19 21 ?_;refine sJ c178r3.eq_1 ?_;intros;refine rV ?_;simp only[push_cast,Nat.reduceBEq];have hg:getB l a=(kj,0,(jk l a 4).2):=by rw[getB,if_neg k1]
  exact⟨_,by rw[hg],by rw[hg];exact BE.zero⟩
 have k1:(jk l a 4).2=0:=by simpa using k1
 obtain⟨ha,hal⟩:=(hnk k1).resolve_right (by decide);obtain⟨a,rfl⟩:∃ n:Nat,a=n:=⟨a.toNat,by omega⟩;rw[Int.toNat_natCast]at hal;have hg:getB l (a:Int)=if 5≤(jk l a 4).1∧(jk l a 4).1≤2044 then
   if (jk l a 4).1≤(l.drop (a+4)).length then
    if (iM ((l.drop (a+4)).take (jk l a 4).1)).2=0 then
     match wR 15 (iM ((l.drop (a+4)).take (jk l a 4).1)).1 with
     | none=>(kj,(0:Int),(11:Int))
     | some x=>(x,((a+4+(jk l a 4).1:Nat):Int),(0:Int))
    else(kj,(0:Int),(iM ((l.drop (a+4)).take (jk l a 4).1)).2)
   else(kj,(0:Int),(10:Int))
  else(kj,(0:Int),(11:Int)):=by rw[getB,if_pos k1];rfl
 generalize (jk l a 4).1=n at hg hnl;have hbad:¬ (5≤n∧n≤2044)→∀ (fr:List Td) (e:Env),go none Tryz.prog 68 v178.1 v178.2 (fW o178 fun v h=>yk l a h.G v) (Td.s ((SC.reg false c178r5).seq .ret) :: fr) e ⟨G,[.reg 4 [.int .i64 0,.int .i64 0,.int .i64 0,.int .i64 0,.int .i64 0,.int .i64 0,.int .i64 0,.bool false,.int .i64 0,.slice none 0 0]],[]⟩:=fun hx fr e=>by
  rw[if_neg hx]at hg;intros;refine gr 27 28 ?_;refine sJ c178r5.eq_1 ?_;intros;refine rV ?_;simp only[push_cast,Nat.reduceBEq];exact⟨_,by rw[hg],by rw[hg];exact BE.zero⟩
 intros;refine gN ?_;intros;refine gr 21 26 ?_;refine sJ c178r4.eq_1 ?_;refine gd (fun k2=>?_) (fun k2=>?_)
 ·have k2:=of_decide_eq_true k2;refine sI ?_;intros;refine gc ?_;refine sI ?_;exact hbad (by omega) _ _
 have k2:=of_decide_eq_false k2;refine sI ?_;intros;refine gc ?_;refine sI ?_;refine gb (fun k3=>?_) (fun k3=>?_)
 ·have k3:=of_decide_eq_true k3;exact hbad (by omega) _ _
 have k3:=of_decide_eq_false k3;clear hbad;rw[if_pos ⟨by omega,by omega⟩]at hg;have w4:IntKind.i64.wrap ((a:Int)+4)=((a+4:Nat):Int):=by rw[dU] <;> omega
 intros;refine gN ?_;intros;refine gr 28 32 ?_;refine sJ2 c178r6.eq_1 @w4 ?_;refine zE (a+4) l.length c hl0 rfl rfl rfl (by omega) fun B hB=>?_
 rw[List.take_length]at hB ⊢;have hrl:(l.drop (a+4)).length=l.length - (a+4):=by simp
 generalize l.drop (a+4)=rest at hB hg hrl ⊢;refine sI ?_;have hcv:IntKind.u64.wrap (rest.length:Int)=(rest.length:Int):=nL (by omega);intros;refine gr 32 36 ?_;refine sJ2 c178r7.eq_1 @hcv ?_;intros;refine gc ?_;refine sI ?_;refine gb (fun k4=>?_) (fun k4=>?_)
 ·have k4:=of_decide_eq_true k4;rw[if_neg (by omega)]at hg;intros;refine gr 37 38 ?_;refine sJ c178r8.eq_1 ?_;intros;refine rV ?_;simp only[push_cast,Nat.reduceBEq];exact⟨_,by rw[hg],by rw[hg];exact BE.zero⟩
 have k4:=of_decide_eq_false k4;rw[if_pos (by omega)]at hg;have hpre:=SlV.pre n hB (by omega);have hop:=CT (rest.take n) _ G hpre (by simp;omega);have hol:=vT (rest.take n);have hrn:(rest.take n).length≤2044:=by simp;omega
 generalize iM (rest.take n)=o at hop hg hol;intros;refine gN ?_;intros;refine gr 38 45 ?_;refine sJ c178r9.eq_1 ?_;refine⟨by omega,?_⟩;refine(hop _ []).mono ?_;rintro r h' ⟨G1,L',rfl,hg1,u,rfl,ys,hys,rfl⟩;refine sI ?_;intros;try refine dv ?_
 refine ed (dQ [] _ (by decide) hys) ?_;rintro h' ⟨G2,rfl,hg2,hv2⟩;intros;refine gr 45 46 ?_;refine sJ c178r10.eq_1 ?_;intros;refine gc ?_;refine sI ?_;refine gb (fun k5=>?_) (fun k5=>?_)
 ·have k5:=of_decide_eq_true k5;rw[if_neg k5]at hg;intros;refine gr 47 49 ?_;refine sJ c178r11.eq_1 ?_;intros;refine rV ?_;simp only[push_cast,Nat.reduceBEq];exact⟨_,by rw[hg],by rw[hg];exact BE.zero⟩
 have k5:o.2=0:=by simpa using k5
 rw[if_pos k5]at hg;intros;refine gN ?_;intros;refine gr 49 54 ?_;refine sJ c178r12.eq_1 ?_;refine(yJ o.1 u G2 hv2 (by omega) _ []).mono ?_;rintro r h' ⟨G3,rfl,hg3,x,cs,ok,rfl,hbe,hpo⟩;have hck:=kF x cs G3 hbe;have hbe0:=hbe;obtain⟨B',d',rfl,-⟩:=hbe;unfold eS at hck;unfold eS;refine sI ?_
 have hbad:wR 15 o.1=none→∀ (fr:List Td) (e:Env),go none Tryz.prog 68 v178.1 v178.2 (fW o178 fun v h=>yk l a h.G v) (Td.s ((SC.reg false c178r14).seq .ret) :: fr) e ⟨G3,[.reg 4 (eS x (.slice B' x.recs.length d'))],[]⟩:=fun hx fr e=>by
  rw[hx]at hg;dsimp only at hg;unfold eS;intros;refine gr 61 62 ?_;refine sJ c178r14.eq_1 ?_;intros;refine rV ?_;simp only[push_cast,Nat.reduceBEq];exact⟨_,by rw[hg],by rw[hg];exact BE.zero⟩
 unfold eS at hbad;intros;refine gr 54 60 ?_;refine sJ c178r13.eq_1 ?_;refine gd (fun k6=>?_) (fun k6=>?_)
 ·have k6:ok=false:=by simpa using k6
  subst k6;refine sI ?_;intros;refine gc ?_;refine sI ?_;exact hbad (uk hpo) _ _
 have k6:ok=true:=by simpa using k6
 subst k6;refine sI ?_;refine(hck _ _).mono ?_;rintro _ _ ⟨rfl,rfl⟩;refine sI ?_;intros;refine gc ?_;refine sI ?_;refine gb (fun k7=>?_) (fun k7=>?_)
 ·have k7:=of_decide_eq_true k7;exact hbad (zn hpo k7) _ _
 have k7:fp x=0:=by simpa using k7
 clear hbad;rw[pU hpo k7]at hg;dsimp only at hg;have hcn:IntKind.i64.wrap (n:Int)=(n:Int):=by rw[dU] <;> omega
 have hw5:IntKind.i64.wrap (((a+4:Nat):Int)+n)=((a+4+n:Nat):Int):=by rw[dU] <;> omega
 generalize a+4+n=nx at hg hw5;generalize a+4=a4 at w4 hw5;intros;refine gN ?_;intros;refine gr 62 68 ?_;refine sJ4 c178r15.eq_1 @w4 @hcn @hw5 ?_;intros;refine rV ?_;simp only[push_cast,Nat.reduceBEq];exact⟨_,by rw[hg],by rw[hg];exact hbe0⟩
theorem s7{y:Nat}(h:y < 256):(UInt8.ofNat y).toNat=y:=by simp;omega
theorem EE(x:UInt8):UInt8.ofNat x.toNat=x:=by simp
theorem rW:∀ (f i z y:Nat) (q:List UInt8),i+f=9→y < 2 * 128 ^ f→(0 < i→0 < y)→gvL i z (nX f y++q)=(0,z+128 ^ i * y,i+(nX f y).length)
 | 0,i,z,y,q,hi,hy,h0=>by
  have hx:(UInt8.ofNat y).toNat=y:=s7 (by simp at hy;omega);simp at hy;simp only[nX,List.cons_append,List.nil_append];rw[m6 (by rw[hx];omega) (by rw[hx];omega),hx,Nat.mod_eq_of_lt (by omega)];rfl
 | f+1,i,z,y,q,hi,hy,h0=>by
  unfold nX;split
  ·rename_i hlt;have hx:(UInt8.ofNat y).toNat=y:=s7 (by omega);simp only[List.cons_append,List.nil_append];rw[m6 (by rw[hx];omega) (by rw[hx];omega),hx,Nat.mod_eq_of_lt (by omega)];rfl
  ·rename_i hge;have hx:(UInt8.ofNat (128+y % 128)).toNat=128+y % 128:=s7 (by omega);simp only[List.cons_append];rw[mp (by rw[hx];omega) (by rw[hx];omega),hx];rw[Nat.pow_succ]at hy;rw[rW f (i+1) _ (y / 128) q (by omega) (by omega) (by omega)];have e1:(128+y % 128) % 128=y % 128:=by omega
   have e2:128 ^ (i+1) * (y / 128)=128 ^ i * (128 * (y / 128)):=by rw[Nat.pow_succ,Nat.mul_assoc]
   rw[e1,e2,Nat.add_assoc,← Nat.mul_add,show y % 128+128 * (y / 128)=y by omega];simp;omega
theorem rO:∀ (m:List UInt8) (i z:Nat),i≤9→(gvL i z m).1=0→∃ y rest,m=nX (9 - i) y++rest∧(gvL i z m).2.1=z+128 ^ i * y∧(gvL i z m).2.2=i+(nX (9 - i) y).length∧(0 < i→0 < y)∧y < 2 * 128 ^ (9 - i)
 | [],i,z,_,h=>by simp[gvL]at h
 | x :: xs,i,z,hi,h=>by
  have hxl:=x.toNat_lt;by_cases h1:(i=9∧1 < x.toNat)∨(0 < i∧x.toNat=0)
  ·rw[qG h1]at h;cases h
  ·by_cases h2:x.toNat < 128
   ·rw[m6 h1 h2];refine⟨x.toNat,xs,?_,by rw[Nat.mod_eq_of_lt h2],?_,by omega,?_⟩
    ·rw[rD h2,EE];rfl
    ·rw[rD h2];rfl
    ·by_cases h9:i=9
     ·subst h9;simp;omega
     ·have:128 ^ 1≤128 ^ (9 - i):=Nat.pow_le_pow_right (by decide) (by omega);omega
   ·have hi8:i≤8:=by omega
    rw[mp h1 h2]at h ⊢;obtain⟨y,rest,e1,e2,e3,e4,e5⟩:=rO xs (i+1) _ (by omega) h;have hy:=e4 (by omega);refine⟨(x.toNat - 128)+128 * y,rest,?_,?_,?_,by omega,?_⟩
    ·rw[show 9 - i=9 - (i+1)+1 by omega,nX,if_neg (by omega),show 128+(x.toNat - 128+128 * y) % 128=x.toNat by omega,EE,show(x.toNat - 128+128 * y) / 128=y by omega,List.cons_append,← e1]
    ·rw[e2,Nat.pow_succ,Nat.add_assoc];congr 1;rw[show x.toNat % 128=x.toNat - 128 by omega,Nat.mul_assoc,← Nat.mul_add]
    ·rw[e3,show 9 - i=9 - (i+1)+1 by omega,nX,if_neg (by omega),show(x.toNat - 128+128 * y) / 128=y by omega,List.length_cons];omega
    ·rw[show 9 - i=9 - (i+1)+1 by omega,Nat.pow_succ];omega
theorem Cn{n:Int}(h:I64 n):zag (zig n)=n:=by
 unfold zag zig I64 at *;split <;> split <;> omega
theorem u3(z:Nat):zig (zag z)=z:=by
 unfold zag zig;split <;> split <;> omega
theorem uZ{l:List UInt8}{a:Nat}:fy l (a:Int)=if (gvL 0 0 (l.drop a)).1=0 then(zag (gvL 0 0 (l.drop a)).2.1,(a:Int)+(gvL 0 0 (l.drop a)).2.2,0)else(0,0,(gvL 0 0 (l.drop a)).1):=by
 rw[fy,if_neg (by omega)];rfl
theorem lA{l:List UInt8}{a:Nat}{n:Int}{q:List UInt8}(hn:I64 n)(h:l.drop a=pvB n++q):fy l (a:Int)=(n,((a+(pvB n).length:Nat):Int),0):=by
 have hz:=py hn;rw[uZ,h,pvB,rW 9 0 0 (zig n) q rfl (by omega) (by omega)];simp only[if_true,Nat.zero_add,Nat.pow_zero,Nat.one_mul,Cn hn];rfl
theorem jh{l:List UInt8}{a:Nat}(h:(fy l (a:Int)).2.2=0):∃ q,l.drop a=pvB (fy l (a:Int)).1++q∧(fy l (a:Int)).2.1=((a+(pvB (fy l (a:Int)).1).length:Nat):Int)∧I64 (fy l (a:Int)).1:=by
 obtain⟨_,_,_,_,_,hi⟩:=lq h;rw[uZ]at h hi ⊢;split at h
 ·rename_i h0;rw[if_pos h0]at hi ⊢;obtain⟨y,rest,e1,e2,e3,_,e5⟩:=rO _ 0 0 (by omega) h0;simp only[Nat.zero_add,Nat.pow_zero,Nat.one_mul,Nat.sub_zero]at e1 e2 e3;dsimp only at hi ⊢;rw[e2]at hi ⊢;refine⟨rest,?_,?_,hi⟩
  ·rw[pvB,u3];exact e1
  ·rw[pvB,u3,e3];rfl
 ·rename_i h0;exact absurd h h0
theorem vO(n:Int):0 < (pvB n).length:=(nV 9 _).2
theorem xp{l:List UInt8}{a:Nat}{s:ByteArray}{q:List UInt8}(hs:s.size≤64)(h:l.drop a=ptB s++q):li l (a:Int) 64=(s,((a+(ptB s).length:Nat):Int),0):=by
 have hv:=lA (l:=l) (a:=a) (n:=s.size) (q:=s.data.toList++q) (by unfold I64;omega) (by rw[h,ptB,List.append_assoc]);have hd:l.drop (a+(pvB s.size).length)=s.data.toList++q:=by rw[← List.drop_drop,h,ptB,List.append_assoc,List.drop_left]
 have hl:s.data.toList.length=s.size:=rfl;have hlen:a+(pvB s.size).length+s.size≤l.length:=by
  have:=congrArg List.length hd;simp at this;have h2:=vO s.size;have h3:=congrArg List.length h;simp[ptB]at h3;omega
 rw[li,hv];dsimp only;rw[if_pos rfl,if_neg (by omega),if_neg (by omega),if_neg (by omega)];simp only[Int.toNat_natCast];have e1:(l.take (a+(pvB s.size).length+s.size)).drop (a+(pvB s.size).length)=s.data.toList:=by
  rw[List.drop_take,Nat.add_sub_cancel_left,hd,List.take_left' hl]
 rw[e1];refine Prod.ext rfl (Prod.ext ?_ rfl);simp only[ptB,List.length_append,hl];omega
theorem pq{l:List UInt8}{a:Nat}(h:(li l (a:Int) 64).2.2=0):∃ q,l.drop a=ptB (li l (a:Int) 64).1++q∧(li l (a:Int) 64).2.1=((a+(ptB (li l (a:Int) 64).1).length:Nat):Int)∧(li l (a:Int) 64).1.size≤64:=by
 have hb:=@jh l a;have hk:=@lq l a;unfold li at h ⊢;split at h
 ·rename_i h0;obtain⟨q,e1,e2,e3⟩:=hb h0;obtain⟨k,_,e4,_,e5,_⟩:=hk h0;rw[Int.toNat_natCast]at e4 e5;rw[if_pos h0];split at h
  ·cases h
  ·rename_i h1;split at h
   ·cases h
   ·rename_i h2;split at h
    ·cases h
    ·rename_i h3;rw[if_neg h1,if_neg h2,if_neg h3];generalize fy l (a:Int)=v at *;obtain⟨n,nx,er⟩:=v;dsimp only at *;obtain⟨n,rfl⟩:∃ m:Nat,n=m:=⟨n.toNat,by omega⟩;have hk2:k=(pvB n).length:=by omega
     subst hk2;subst e4;simp only[Int.toNat_natCast];have hd:l.drop (a+(pvB n).length)=q:=by rw[← List.drop_drop,e1,List.drop_left]
     have hql:n≤q.length:=by rw[← hd];simp;omega
     have e6:(l.take (a+(pvB n).length+n)).drop (a+(pvB n).length)=q.take n:=by rw[List.drop_take,Nat.add_sub_cancel_left,hd]
     rw[e6];have hsz:(ByteArray.mk (q.take n).toArray).size=n:=by
      show(q.take n).toArray.size=n;simp;omega
     refine⟨q.drop n,?_,?_,by rw[hsz];omega⟩
     ·rw[ptB,hsz,List.append_assoc,e1];simp
     ·rw[ptB,List.length_append,hsz];simp;omega
 ·rename_i h0;exact absurd h h0
theorem Ir{l:List UInt8}{a:Nat}{x:UInt8}{q:List UInt8}(h:l.drop a=x :: q):l[a]?=some x:=by
 have:=List.getElem?_drop (xs:=l) (i:=a) (j:=0);rw[Nat.add_zero,h]at this;exact this.symm
theorem Al{l:List UInt8}{a:Nat}{x:UInt8}(h:l[a]?=some x):l.drop a=x :: l.drop (a+1):=by
 have h2:=List.getElem?_eq_some_iff.1 h;rw[List.drop_eq_getElem_cons h2.1,h2.2]
theorem eV{l p q:List UInt8}{a:Nat}(h:l.drop a=p++q):l.drop (a+p.length)=q:=by rw[← List.drop_drop,h,List.drop_left]
theorem fP{n:Int}:inO n=true↔0≤n∧n≤1099511627776:=by simp[inO]
theorem BJ{l:List UInt8}{a:Nat}{r:Rec}{base stamp:Int}{q:List UInt8}(hb:inO base=true)(hs:inO stamp=true)(hc:j9 r=0)(h:l.drop a=prB r base stamp++q):getR l (a:Int) base stamp=(r,((a+(prB r base stamp).length:Nat):Int),0):=by
 obtain⟨⟨c1,c2⟩,c3,c4⟩:=fC hc;have hb':=fP.1 hb;have hs':=fP.1 hs;have c1':=fP.1 c1;have c2':=fP.1 c2;have h1:l.drop a=pvB (r.off - base)++(pvB (r.stamp - stamp)++((if r.dead=true then 1 else 0) :: (ptB r.key++(ptB r.val++q)))):=by rw[h,prB];simp
 have h2:=eV h1;have h3:=eV h2;have h4:l.drop (a+(pvB (r.off - base)).length+(pvB (r.stamp - stamp)).length+1)=ptB r.key++(ptB r.val++q):=by
  have:=eV (p:=[if r.dead=true then 1 else 0]) h3;exact this
 have h5:=eV h4;have v1:=lA (show I64 (r.off - base)by unfold I64;omega) h1;have v2:=lA (show I64 (r.stamp - stamp)by unfold I64;omega) h2;have v4:=xp c3 h4;have v5:=xp c4 h5;have v3:sn l (a+(pvB (r.off - base)).length+(pvB (r.stamp - stamp)).length)=(r.dead,((a+(pvB (r.off - base)).length+(pvB (r.stamp - stamp)).length+1:Nat):Int),0):=by
  rw[sn,Ir h3];cases r.dead <;> simp
 have e1:g1 l a=(r.off - base,((a+(pvB (r.off - base)).length:Nat):Int),0):=by rw[Ex,v1]
 have e2:g2 l a=(r.stamp - stamp,((a+(pvB (r.off - base)).length+(pvB (r.stamp - stamp)).length:Nat):Int),0):=by rw[g2,e1,tf rfl,v2]
 have e3:g3 l a=(r.dead,((a+(pvB (r.off - base)).length+(pvB (r.stamp - stamp)).length+1:Nat):Int),0):=by rw[g3,e2,tf rfl,Int.toNat_natCast,v3]
 have e4:g4 l a=(r.key,((a+(pvB (r.off - base)).length+(pvB (r.stamp - stamp)).length+1+(ptB r.key).length:Nat):Int),0):=by rw[g4,e3,tf rfl,v4]
 have e5:g5 l a=(r.val,((a+(pvB (r.off - base)).length+(pvB (r.stamp - stamp)).length+1+(ptB r.key).length+(ptB r.val).length:Nat):Int),0):=by rw[g5,e4,tf rfl,v5]
 have er:ue l a base stamp=r:=by
  rw[ue,e1,e2,e3,e4,e5];have b1:bes base (r.off - base)=r.off:=by rw[bes,if_neg (by omega)];omega
  have b2:bes stamp (r.stamp - stamp)=r.stamp:=by rw[bes,if_neg (by omega)];omega
  dsimp only;rw[b1,b2]
 have hal:a≤l.length:=by
  have h6:=congrArg List.length h1;have:=vO (r.off - base);simp at h6;omega
 rw[qZ ⟨hb,hs,by omega,by omega⟩,e5];dsimp only;rw[if_pos rfl,er,if_pos hc];refine Prod.ext rfl (Prod.ext ?_ rfl);dsimp only;simp only[prB,List.length_append,List.length_cons,List.length_nil];omega
theorem wJ{l:List UInt8}{a:Nat}{base stamp:Int}(h:(getR l (a:Int) base stamp).2.2=0):∃ q,l.drop a=prB (getR l (a:Int) base stamp).1 base stamp++q∧(getR l (a:Int) base stamp).2.1=((a+(prB (getR l (a:Int) base stamp).1 base stamp).length:Nat):Int)∧j9 (getR l (a:Int) base stamp).1=0:=by
 by_cases hin:inO base=true∧inO stamp=true∧0≤(a:Int)∧(a:Int)≤l.length;rotate_left
 ·rw[getR,if_neg hin]at h;cases h
 have k5:(g5 l a).2.2=0:=by
  rcases Int.lt_or_le 0 0 with hh | _
  ·omega
  ·by_cases hh:(g5 l a).2.2=0
   ·exact hh
   ·rw[Au hin hh]at h;exact absurd h hh
 have k4:(g4 l a).2.2=0:=by
  by_cases hh:(g4 l a).2.2=0
  ·exact hh
  ·rw[Ak hin hh]at h;exact absurd h hh
 have k3:(g3 l a).2.2=0:=by
  by_cases hh:(g3 l a).2.2=0
  ·exact hh
  ·rw[zZ hin hh]at h;exact absurd h hh
 have k2:(g2 l a).2.2=0:=by
  by_cases hh:(g2 l a).2.2=0
  ·exact hh
  ·rw[zY hin hh]at h;exact absurd h hh
 have k1:(g1 l a).2.2=0:=by
  by_cases hh:(g1 l a).2.2=0
  ·exact hh
  ·rw[EV hin hh]at h;exact absurd h hh
 rw[qZ hin,if_pos k5]at h ⊢;split at h;rotate_left
 ·cases h
 rename_i hc;rw[if_pos hc]
 -- field by field
 have e1:=Ex l a;rw[e1]at k1;obtain⟨q1,a1,a2,a3⟩:=jh k1;have e2:g2 l a=fy l (fy l a).2.1:=by rw[g2,e1,tf k1]
 generalize hv1:fy l (a:Int)=v1 at *;obtain⟨d1,n1,x1⟩:=v1;dsimp only at *;subst a2;rw[e2]at k2;obtain⟨q2,b1,b2,b3⟩:=jh k2;have e3:g3 l a=sn l (fy l ((a+(pvB d1).length:Nat):Int)).2.1.toNat:=by rw[g3,e2,tf k2]
 generalize hv2:fy l ((a+(pvB d1).length:Nat):Int)=v2 at *;obtain⟨d2,n2,x2⟩:=v2;dsimp only at *;subst b2;rw[Int.toNat_natCast]at e3;have hz1:=eV a1;have hz2:=eV b1
 -- the byte
 generalize hj:a+(pvB d1).length+(pvB d2).length=j at *;obtain⟨x,hx⟩:∃ x,l[j]?=some x:=by
  cases hx:l[j]? with
  | none=>rw[e3,sn,hx]at k3;cases k3
  | some x=>exact⟨x,rfl⟩
 have hxl:¬ 1 < x.toNat:=fun hh=>by
  rw[e3,sn,hx]at k3;dsimp only at k3;rw[if_pos hh]at k3;cases k3
 have e3':g3 l a=(decide (x.toNat=1),((j+1:Nat):Int),0):=by
  rw[e3,sn,hx];dsimp only;rw[if_neg hxl];rfl
 have hd3:=Al hx
 -- the texts
 have e4:g4 l a=li l ((j+1:Nat):Int) 64:=by rw[g4,e3',tf rfl]
 rw[e4]at k4;obtain⟨q4,c1,c2,c3⟩:=pq k4;have e5:g5 l a=li l (li l ((j+1:Nat):Int) 64).2.1 64:=by rw[g5,e4,tf k4]
 generalize hv4:li l ((j+1:Nat):Int) 64=v4 at *;obtain⟨s4,n4,x4⟩:=v4;dsimp only at *;subst c2;rw[e5]at k5;obtain⟨q5,f1,f2,f3⟩:=pq k5;generalize hv5:li l ((j+1+(ptB s4).length:Nat):Int) 64=v5 at *;obtain⟨s5,n5,x5⟩:=v5;dsimp only at *;subst f2;have hrr:ue l a base stamp=⟨bes base d1,s4,s5,decide (x.toNat=1),bes stamp d2⟩:=by rw[ue,e1,e2,e3',e4,e5]
 rw[hrr]at hc ⊢;obtain⟨⟨o1,o2⟩,-,-⟩:=fC hc;dsimp only at o1 o2;have hb1:bes base d1 - base=d1:=by
  unfold bes at o1 ⊢;split
  ·rename_i hh;rw[if_pos hh]at o1;simp[inO]at o1
  ·omega
 have hb2:bes stamp d2 - stamp=d2:=by
  unfold bes at o2 ⊢;split
  ·rename_i hh;rw[if_pos hh]at o2;simp[inO]at o2
  ·omega
 have hbyte:(if decide (x.toNat=1)=true then(1:UInt8)else 0)=x:=by
  apply UInt8.toNat_inj.1;by_cases hh:x.toNat=1
  ·simp[hh]
  ·simp[hh];omega
 have hpr:prB ⟨bes base d1,s4,s5,decide (x.toNat=1),bes stamp d2⟩ base stamp=pvB d1++pvB d2++[x]++ptB s4++ptB s5:=by
  rw[prB];dsimp only;rw[hb1,hb2,hbyte]
 have hz4:=eV c1;refine⟨q5,?_,?_,hc⟩
 ·rw[hpr,a1,← hz1,b1,← hz2,hd3,c1,← hz4,f1];simp
 ·rw[e5,hpr];dsimp only;simp only[List.length_append,List.length_cons,List.length_nil];omega
theorem sW{α:Type}{l:List α}{k:Nat}(h:k < l.length):l=l.take k++(l[k] :: l.drop (k+1)):=by
 rw[← List.drop_eq_getElem_cons h,List.take_append_drop]
theorem kG(a b:List Int):eK (a++b)=eK a++eK b:=by simp[eK]
theorem ki(n:Int)(b:List Int):eK (n :: b)=pvB n++eK b:=by simp[eK]
theorem kV(base stamp:Int)(a b:List Rec):fw base stamp (a++b)=fw base stamp a++fw base stamp b:=by simp[fw]
theorem j8(base stamp:Int)(r:Rec)(b:List Rec):fw base stamp (r :: b)=prB r base stamp++fw base stamp b:=by simp[fw]
theorem wz{l q:List UInt8}{ns:List Int}(hi:∀ n∈ns,I64 n)(h:l=eK ns++q):∀ k,k≤ns.length→nh l k=some (ns.take k,(eK (ns.take k)).length)
 | 0,_=>by simp[nh,eK]
 | k+1,hk=>by
  have hd:l.drop (eK (ns.take k)).length=pvB ns[k]++(eK (ns.drop (k+1))++q):=by
   have e:=sW (l:=ns) (k:=k) (by omega);have:l=eK (ns.take k)++(pvB ns[k]++(eK (ns.drop (k+1))++q)):=by
    rw[h]
    conv=>lhs;rw[e]
    rw[kG,ki];simp
   rw[this,List.drop_left]
  have hv:=lA (hi _ (List.getElem_mem (by omega))) hd;rw[nh,wz hi h k (by omega)];simp only[Option.bind_some];rw[hv];dsimp only;rw[if_pos rfl,Int.toNat_natCast,List.take_succ_eq_append_getElem (by omega),kG,ki];simp[eK]
theorem pP{l:List UInt8}:∀ (k:Nat) (ns:List Int) (p:Nat),nh l k=some (ns,p)→ns.length=k∧(∀ n∈ns,I64 n)∧∃ q,l=eK ns++q∧p=(eK ns).length
 | 0,ns,p,h=>by
  simp only[nh,Option.some.injEq,Prod.mk.injEq]at h;obtain⟨rfl,rfl⟩:=h;exact⟨rfl,by simp,l,by simp[eK],by simp[eK]⟩
 | k+1,ns,p,h=>by
  rw[nh]at h;cases hk:nh l k with
  | none=>rw[hk]at h;cases h
  | some r =>
   obtain⟨ns',p'⟩:=r;rw[hk]at h;simp only[Option.bind_some]at h;split at h
   ·rename_i h0;obtain⟨h1,h2,q,h3,h4⟩:=pP k ns' p' hk;obtain⟨q2,e1,e2,e3⟩:=jh h0;simp only[Option.some.injEq,Prod.mk.injEq]at h;obtain⟨rfl,rfl⟩:=h;rw[e2];generalize (fy l (p':Int)).1=n at e1 e3 ⊢;refine⟨by simp[h1],?_,q2,?_,?_⟩
    ·intro x hx;rcases List.mem_append.1 hx with hx | hx
     ·exact h2 x hx
     ·simp at hx;rw[hx];exact e3
    ·have:q=pvB n++q2:=by rw[← e1,h3,h4,List.drop_left]
     rw[h3,this,kG,ki];simp[eK]
    ·rw[Int.toNat_natCast,kG,ki,h4];simp[eK]
   ·cases h
theorem r8{l q:List UInt8}{base stamp:Int}{p:Nat}{rs:List Rec}(hb:inO base=true)(hs:inO stamp=true)(hc:∀ r∈rs,j9 r=0)(h:l.drop p=fw base stamp rs++q):∀ k,k≤rs.length→gX l base stamp p k=some (rs.take k,p+(fw base stamp (rs.take k)).length)
 | 0,_=>by simp[gX,fw]
 | k+1,hk=>by
  have hd:l.drop (p+(fw base stamp (rs.take k)).length)=prB rs[k] base stamp++(fw base stamp (rs.drop (k+1))++q):=by
   have e:=sW (l:=rs) (k:=k) (by omega);refine eV (p:=fw base stamp (rs.take k)) ?_;rw[h]
   conv=>lhs;rw[e]
   rw[kV,j8];simp
  have hv:=BJ hb hs (hc _ (List.getElem_mem (by omega))) hd;rw[gX,r8 hb hs hc h k (by omega)];simp only[Option.bind_some];rw[hv];dsimp only;rw[if_pos rfl,Int.toNat_natCast,List.take_succ_eq_append_getElem (by omega),kV,j8];simp[fw];omega
theorem nz{l:List UInt8}{base stamp:Int}{p:Nat}:∀ (k:Nat) (rs:List Rec) (p':Nat),gX l base stamp p k=some (rs,p')→rs.length=k∧(∀ r∈rs,j9 r=0)∧∃ q,l.drop p=fw base stamp rs++q∧p'=p+(fw base stamp rs).length
 | 0,rs,p',h=>by
  simp only[gX,Option.some.injEq,Prod.mk.injEq]at h;obtain⟨rfl,rfl⟩:=h;exact⟨rfl,by simp,l.drop p,by simp[fw],by simp[fw]⟩
 | k+1,rs,p',h=>by
  rw[gX]at h;cases hk:gX l base stamp p k with
  | none=>rw[hk]at h;cases h
  | some r =>
   obtain⟨rs',p1⟩:=r;rw[hk]at h;simp only[Option.bind_some]at h;split at h
   ·rename_i h0;obtain⟨h1,h2,q,h3,h4⟩:=nz k rs' p1 hk;obtain⟨q2,e1,e2,e3⟩:=wJ h0;simp only[Option.some.injEq,Prod.mk.injEq]at h;obtain⟨rfl,rfl⟩:=h;rw[e2];generalize (getR l (p1:Int) base stamp).1=r at e1 e3 ⊢;refine⟨by simp[h1],?_,q2,?_,?_⟩
    ·intro x hx;rcases List.mem_append.1 hx with hx | hx
     ·exact h2 x hx
     ·simp at hx;rw[hx];exact e3
    ·have:q=prB r base stamp++q2:=by rw[← e1,h4,eV h3]
     rw[h3,this,kV,j8];simp[fw]
    ·rw[Int.toNat_natCast,kV,j8,h4];simp[fw];omega
   ·cases h
theorem wQ{m:UInt8}(h:m.toNat < 8):UInt8.ofNat ((((m.toNat % 4:Nat):Int)).toNat+if decide (4≤m.toNat)=true then 4 else 0)=m:=by
 apply UInt8.toNat_inj.1;rw[Int.toNat_natCast];by_cases h4:4≤m.toNat
 ·rw[if_pos (decide_eq_true h4),s7 (by omega)];omega
 ·rw[if_neg (by simpa using h4),s7 (by omega)];omega
theorem ti{l:List UInt8}{x:Batch}(h:ff 15 l=some x):l=fA x:=by
 unfold ff at h;cases hn:nh l 7 with
 | none=>rw[hn]at h;cases h
 | some q =>
  obtain⟨ns,p⟩:=q;rw[hn]at h;simp only[Option.bind_some]at h;obtain⟨hnl,hni,q0,hl0,rfl⟩:=pP 7 ns p hn;unfold mZ at h;dsimp only at h;cases hm:l[(eK ns).length]? with
  | none=>rw[hm]at h;cases h
  | some m =>
   rw[hm]at h;simp only[Option.bind_some]at h;split at h;rotate_left
   ·cases h
   rename_i hc;obtain⟨hm8,hn0,hn1⟩:=hc;have hd1:=Al hm;unfold mV at h;split at h;rotate_left
   ·cases h
   rename_i hv;obtain⟨q1,e1,e2,e3⟩:=jh (a:=(eK ns).length+1) hv.1;rw[show(((eK ns).length:Nat):Int)+1=(((eK ns).length+1:Nat):Int)from rfl]at h hv;generalize fy l (((eK ns).length+1:Nat):Int)=v at *;obtain⟨n,nx,er⟩:=v;dsimp only at *;subst e2;generalize hsd:(if 0 < n then fy l (((eK ns).length+1+(pvB n).length:Nat):Int)else(0,(((eK ns).length+1+(pvB n).length:Nat):Int),0))=s at h;unfold pt at h
   split at h;rotate_left
   ·cases h
   rename_i hs;cases hr:gX l (ns.getD 0 0) s.1 s.2.1.toNat n.toNat with
   | none=>rw[hr]at h;cases h
   | some q =>
    obtain⟨rs,p3⟩:=q;rw[hr]at h;simp only[Option.bind_some]at h;split at h;rotate_left
    ·cases h
    rename_i hf;obtain⟨hp3,hso⟩:=hf;cases h;obtain⟨hrl,hrc,q3,f1,f2⟩:=nz _ rs p3 hr;obtain⟨n0,n1,n2,n3,n4,n5,n6,rfl⟩:∃ n0 n1 n2 n3 n4 n5 n6:Int,ns=[n0,n1,n2,n3,n4,n5,n6]:=by
     match ns,hnl with
     | [n0,n1,n2,n3,n4,n5,n6],_=>exact⟨n0,n1,n2,n3,n4,n5,n6,rfl⟩
    have hhead:fk (mkB [n0,n1,n2,n3,n4,n5,n6] m rs)=[n0,n1,n2,n3,n4,n5,n6]:=by
     have:n0+n1 - n0=n1:=by omega
     simp[fk,mkB,this]
    have hmark:jJ (mkB [n0,n1,n2,n3,n4,n5,n6] m rs)=m:=wQ hm8;have hlen:(rs.length:Int)=n:=by omega
    have hq3:q3=[]:=by
     have:=congrArg List.length f1;simp only[List.length_drop,List.length_append]at this;exact List.eq_nil_of_length_eq_zero (by
      by_cases hsl:s.2.1.toNat≤l.length
      ·omega
      ·omega)
    subst hq3;rw[List.append_nil]at f1;have hbody:fA (mkB [n0,n1,n2,n3,n4,n5,n6] m rs)=eK [n0,n1,n2,n3,n4,n5,n6]++[m]++pvB n++iV (mkB [n0,n1,n2,n3,n4,n5,n6] m rs):=by
     rw[fA,hhead,hmark];show _++_++pvB (rs.length:Int)++_=_;rw[hlen]
    rw[hbody];have hq0:q0=l.drop (eK [n0,n1,n2,n3,n4,n5,n6]).length:=by rw[hl0,List.drop_left]
    have hz1:=eV e1;have htail:q1=iV (mkB [n0,n1,n2,n3,n4,n5,n6] m rs):=by
     match rs,hrl,hso,f1 with
     | [],hrl,_,f1 =>
      have hn0':¬ 0 < n:=by simp at hlen;omega
      rw[if_neg hn0']at hsd;subst hsd;rw[Int.toNat_natCast]at f1;dsimp only at f1;rw[hz1]at f1;rw[f1];simp[iV,mkB,fw]
     | r :: rs,hrl,hso,f1 =>
      have hn0':0 < n:=by simp at hlen;omega
      rw[if_pos hn0']at hsd;subst hsd;obtain⟨q4,g1',g2',g3'⟩:=jh hs;have hst:r.stamp=(fy l (((eK [n0,n1,n2,n3,n4,n5,n6]).length+1+(pvB n).length:Nat):Int)).1:=by simpa [yK]using hso
      rw[g2',Int.toNat_natCast,eV g1']at f1;rw[← hz1,g1',f1,iV];simp only[mkB];rw[hst]
    rw[← htail,hl0]
    conv=>lhs;rw[hq0,hd1,e1]
    simp
theorem p7(x:Batch):0 < (fA x).length:=by
 simp only[fA,List.length_append,List.length_cons,List.length_nil];omega
theorem yO{x:Batch}(hf:kz x):ff 15 (fA x)=some x:=by
 have hf0:=hf;obtain⟨hrc,hrl⟩:=kH hf0;obtain⟨⟨f1,f2,f3⟩,⟨f4,f5,f6⟩,⟨f7,f8,f9,f10⟩,f11,f12,f13⟩:=hf;simp[rng]at f1 f2 f3 f4 f5 f6;have hi:∀ n∈fk x,I64 n:=by
  intro n hn;simp[fk]at hn;unfold I64;omega
 have hb:fA x=eK (fk x)++(jJ x :: (pvB x.recs.length++iV x)):=by simp[fA]
 have h7:=wz hi hb 7 (by simp[fk]);rw[show(fk x).take 7=fk x from rfl]at h7;have hctl:x.ctl=0∨x.ctl=1∨x.ctl=2:=by
  rcases f13 with h | h
  ·exact .inl h.1
  ·exact .inr h.1
 have hmark:(jJ x).toNat=x.ctl.toNat+(if x.txn=true then 4 else 0):=by
  rw[jJ,s7];split <;> omega
 have hmk:mkB (fk x) (jJ x) x.recs=x:=by
  have h4:x.base+(x.last - x.base)=x.last:=by omega
  have h5:decide (4≤(jJ x).toNat)=x.txn:=by
   rw[hmark];cases x.txn
   ·simp;omega
   ·simp
  have h6:(((jJ x).toNat % 4:Nat):Int)=x.ctl:=by
   rw[hmark];split <;> omega
  simp only[mkB,fk,List.getD_cons_zero,List.getD_cons_succ,h4,h5,h6]
 generalize fA x=l at hb h7 ⊢;have hd0:l.drop (eK (fk x)).length=jJ x :: (pvB x.recs.length++iV x):=by rw[hb,List.drop_left]
 have hm:=Ir hd0;have hd1:l.drop ((eK (fk x)).length+1)=pvB x.recs.length++iV x:=eV (p:=[jJ x]) hd0;have hv:=lA (n:=x.recs.length) (by unfold I64;omega) hd1;have hd2:=eV hd1;have hll:(l.drop ((eK (fk x)).length+1+(pvB (x.recs.length:Int)).length)).length=(iV x).length:=by rw[hd2]
 have hle:(eK (fk x)).length+1+(pvB (x.recs.length:Int)).length+(iV x).length=l.length:=by
  have:=congrArg List.length hb;simp only[List.length_append,List.length_cons]at this;omega
 rw[ff,h7];simp only[Option.bind_some];rw[mZ];dsimp only;rw[hm];simp only[Option.bind_some];rw[if_pos ⟨by rw[hmark];split <;> omega,by show 0≤x.base∧x.base≤_;omega,by show 0≤x.last - x.base∧x.last - x.base≤_;omega⟩];rw[show(((eK (fk x)).length:Nat):Int)+1=(((eK (fk x)).length+1:Nat):Int)from rfl,hv,mV];dsimp only;rw[if_pos ⟨rfl,by omega,by omega⟩,Int.toNat_natCast]
 generalize (eK (fk x)).length+1+(pvB (x.recs.length:Int)).length=p2 at hd2 hle;have hbase:(fk x).getD 0 0=x.base:=rfl;cases hr:x.recs with
 | nil =>
  rw[hr]at hmk;have ht:iV x=[]:=by rw[iV,hr]
  rw[if_neg (by simp),pt,if_pos rfl,Int.toNat_natCast];simp only[List.length_nil,gX,Option.bind_some];rw[if_pos ⟨by rw[ht]at hle;simpa using hle,rfl⟩,hmk]
 | cons r rs =>
  have ht:iV x=pvB r.stamp++fw x.base r.stamp (r :: rs):=by rw[iV,hr]
  have hc0:=fC (hrc r (by rw[hr];simp));have hsi:=fP.1 hc0.1.2;rw[ht]at hd2 hle;have hv2:=lA (n:=r.stamp) (by unfold I64;omega) hd2;have hd3:=eV hd2;have hg:=r8 (q:=[]) (fP.2 f1) hc0.1.2 (fun y hy=>hrc y (by rw[hr];exact hy)) (by rw[hd3,List.append_nil]) (r :: rs).length (Nat.le_refl _);rw[List.take_length]at hg;rw[if_pos (by simp only[List.length_cons];omega),hv2,pt];dsimp only
  rw[if_pos rfl,Int.toNat_natCast,hbase,hg];simp only[Option.bind_some];rw[if_pos ⟨by simp only[List.length_append]at hle;omega,by simp[yK]⟩,← hr,hmk]
theorem xU(b:List UInt8):iM (gO b)=(b,0):=by
 have hl:=jR b;have h1:(gO b).take ((gO b).length - 4)=b:=by
  rw[hl,Nat.add_sub_cancel,gO,List.take_left]
 have h2:(gO b).drop ((gO b).length - 4)=lW (Dl b).toNat 4:=by
  rw[hl,Nat.add_sub_cancel,gO,List.drop_left]
 rw[iM,if_neg (by omega),h1,h2,if_pos rfl]
theorem tj{l:List UInt8}(h:(iM l).2=0):l=gO (iM l).1:=by
 unfold iM at h ⊢;split at h
 ·cases h
 ·rename_i h0;rw[if_neg h0];split at h
  ·rename_i h1;rw[if_pos h1];dsimp only
   conv=>lhs;rw[← List.take_append_drop (l.length - 4) l,h1]
   rfl
  ·cases h
theorem gD(x:Batch):9≤(dH x).length:=by
 have:=p7 x;rw[kf];omega
theorem wj{l q:List UInt8}{a:Nat}{x:Batch}(h0:fp x=0)(h:l.drop a=dH x++q):getB l (a:Int)=(x,((a+(dH x).length:Nat):Int),0):=by
 obtain⟨hf,hbl⟩:=iP h0;have hbp:=gD x;have hb8:=kf x;have hsl:=jR (fA x);have hd:l.drop a=lW (gO (fA x)).length 4++(gO (fA x)++q):=by rw[h,dH,List.append_assoc]
 have hd4:l.drop (a+4)=gO (fA x)++q:=by
  have:=eV hd
  rwa [gy]at this
 have hn:jk l (a:Int) 4=((gO (fA x)).length,0):=by
  rw[ka,hd,if_neg (by simp[gy]),List.take_left' (gy _ _),lh 4 _ (by omega)]
 rw[getB,hn];dsimp only;rw[if_pos rfl,if_pos ⟨by omega,by omega⟩,Int.toNat_natCast,hd4,if_pos (by simp),List.take_left,xU];dsimp only;rw[if_pos rfl,pU (yO hf) h0];dsimp only;refine Prod.ext rfl (Prod.ext ?_ rfl);dsimp only;omega
theorem vL{l:List UInt8}{a:Int}(h:(getB l a).2.2=0):∃ (b:Nat) (q:List UInt8),a=b∧l.drop b=dH (getB l a).1++q∧(getB l a).2.1=((b+(dH (getB l a).1).length:Nat):Int)∧fp (getB l a).1=0:=by
 unfold getB at h ⊢;split at h;rotate_left
 ·rename_i h0;exact absurd h h0
 rename_i h0;rw[if_pos h0];split at h;rotate_left
 ·cases h
 rename_i h1;rw[if_pos h1];split at h;rotate_left
 ·cases h
 rename_i h2;rw[if_pos h2];split at h;rotate_left
 ·rename_i h3;exact absurd h h3
 rename_i h3;rw[if_pos h3];obtain⟨ha,hal⟩:=(vJ h0).resolve_right (by decide);obtain⟨b,rfl⟩:∃ n:Nat,a=n:=⟨a.toNat,by omega⟩;rw[Int.toNat_natCast]at *;have hs:=tj h3;cases hp:wR 15 (iM ((l.drop (b+4)).take (jk l (b:Int) 4).1)).1 with
 | none=>rw[hp]at h;cases h
 | some x =>
  rw[hp]at h;dsimp only;rw[wR]at hp;cases hq:ff 15 (iM ((l.drop (b+4)).take (jk l (b:Int) 4).1)).1 with
  | none=>rw[hq]at hp;cases hp
  | some y =>
   rw[hq]at hp;simp only[Option.bind_some]at hp;split at hp;rotate_left
   ·cases hp
   rename_i h4;cases hp;have hb:=ti hq;rw[hb]at hs;have hn:jk l (b:Int) 4=(lL ((l.drop b).take 4),0):=by
    rw[ka,if_neg (by simp;omega)]
   have hlen:(jk l (b:Int) 4).1=(gO (fA x)).length:=by
    rw[← hs];simp only[List.length_take];omega
   have hd4:l.drop (b+4)=gO (fA x)++(l.drop (b+4)).drop (jk l (b:Int) 4).1:=by
    conv=>lhs;rw[← List.take_append_drop (jk l (b:Int) 4).1 (l.drop (b+4)),hs]
   have hd:l.drop b=(l.drop b).take 4++l.drop (b+4):=by
    rw[← List.drop_drop];exact(List.take_append_drop 4 _).symm
   have h44:(l.drop b).take 4=lW (gO (fA x)).length 4:=by
    rw[← hlen,hn];exact(mT 4 _ (by simp;omega)).symm
   refine⟨b,(l.drop (b+4)).drop (jk l (b:Int) 4).1,rfl,?_,?_,h4⟩
   ·rw[dH,List.append_assoc,← hd4,← h44];exact hd
   ·rw[dH,List.length_append,gy,← hlen];omega
def fh(l:List Batch):List UInt8:=l.flatMap dH
theorem qj{l:List Batch}{k:Nat}{x:Batch}(hx:l[k]?=some x):fh (l.take (k+1))=fh (l.take k)++dH x:=by
 unfold fh;rw[List.take_add_one,hx];simp[List.flatMap_append]
theorem vq{l:List Batch}{k:Nat}{x:Batch}(hx:l[k]?=some x):(fh l).drop (fh (l.take k)).length=dH x++fh (l.drop (k+1)):=by
 obtain⟨hk,he⟩:=List.getElem?_eq_some_iff.1 hx;have h1:fh l=fh (l.take k)++(dH x++fh (l.drop (k+1))):=by
  conv=>lhs;rw[← List.take_append_drop k l,List.drop_eq_getElem_cons hk,he]
  simp[fh,List.flatMap_append]
 rw[h1,List.drop_left]
theorem GS{v:W32}(h:stp v=0#32):v=0#32:=by
 cases hb:v.getLsbD 0 with
 | true =>
  exfalso;rw[stp,if_pos hb]at h;have h2:((v >>> 1) ^^^ uH).getLsbD 31=(0#32).getLsbD 31:=by rw[h]
  rw[BitVec.getLsbD_xor,BitVec.getLsbD_ushiftRight]at h2;have h3:v.getLsbD (1+31)=false:=BitVec.getLsbD_of_ge _ _ (by omega);rw[h3]at h2;exact absurd h2 (by decide)
 | false =>
  rw[sK hb]at h;have h1:(v >>> 1).toNat=0:=by rw[h];rfl
  rw[BitVec.toNat_ushiftRight,Nat.shiftRight_eq_div_pow]at h1;have h2:¬ v.toNat % 2=1:=fun hh=>by rw[(GI v).2 hh]at hb;cases hb
  apply BitVec.eq_of_toNat_eq;show v.toNat=0;omega
theorem tt{l:List UInt8}{a c:Nat}{b:Batch}(h0:fp b=0)(hc:c < (dH b).length)(hd:l.drop a=(dH b).take c):getB l (a:Int)=(kj,0,10):=by
 obtain⟨hf,hbl⟩:=iP h0;have lb:=kf b;have hsb:=jR (fA b);have hP:=gy (gO (fA b)).length 4;have hbp:=p7 b;have hl:(l.drop a).length=c:=by rw[hd,List.length_take];omega
 by_cases h4:c < 4
 ·have hn:jk l (a:Int) 4=(0,10):=by
   rw[ka,if_pos (by omega)]
  rw[getB,hn];rfl
 ·have hn:jk l (a:Int) 4=((gO (fA b)).length,0):=by
   rw[ka,if_neg (by omega),hd,List.take_take,Nat.min_eq_left (by omega),dH,List.take_left' hP,lh 4 _ (by omega)]
  have hl4:(l.drop (a+4)).length=c - 4:=by rw[List.length_drop]at hl ⊢;omega
  rw[getB,hn];dsimp only;rw[if_pos rfl,if_pos ⟨by omega,by omega⟩,Int.toNat_natCast,if_neg (by omega)]
structure Sg where
 base:Int
 bytes:List UInt8
deriving DecidableEq
def uh:Int→List Batch→Prop
 | _,[]=>True
 | nx,x :: xs=>nx≤x.base∧uh (x.last+1) xs
def fI:Int→List Batch→Int
 | nx,[]=>nx
 | _,x :: xs=>fI (x.last+1) xs
def oU(q:List UInt8)(nx:Int):Prop:=(getB q 0).2.2=0∧nx≤(getB q 0).1.base
instance (q:List UInt8) (nx:Int):Decidable (oU q nx):=by unfold oU;infer_instance
def yF:Nat→Int→List UInt8→List Batch
 | 0,_,_=>[]
 | f+1,nx,q=>if oU q nx then(getB q 0).1 :: yF f ((getB q 0).1.last+1) (q.drop (dH (getB q 0).1).length)else[]
structure Scans (nx:Int) (q:List UInt8) (bs:List Batch) (r:List UInt8):Prop where
 eq:q=fh bs++r
 ok:∀ x∈bs,fp x=0
 ord:uh nx bs
 stop:¬ oU r (fI nx bs)
def em(s:Sg):List Batch:=yF s.bytes.length s.base s.bytes
def fT(s:Sg):Nat:=(fh (em s)).length
def jL(s:Sg):Int:=fI s.base (em s)
theorem fg(x:Batch)(l:List Batch):fh (x :: l)=dH x++fh l:=rfl
theorem kU(a b:List Batch):fh (a++b)=fh a++fh b:=by simp[fh]
theorem kT(nx:Int)(a b:List Batch):fI nx (a++b)=fI (fI nx a) b:=by
 induction a generalizing nx with
 | nil=>rfl
 | cons x a ih=>exact ih _
theorem oB(nx:Int)(a b:List Batch):uh nx (a++b)↔uh nx a∧uh (fI nx a) b:=by
 induction a generalizing nx with
 | nil=>simp[uh,fI]
 | cons x a ih=>simp only[List.cons_append,uh,fI,ih,and_assoc]
theorem rU{q s:List UInt8}{x:Batch}(h0:fp x=0)(h:q=dH x++s):getB q 0=(x,((dH x).length:Int),0):=by
 have:=wj (l:=q) (a:=0) h0 h;rw[Nat.zero_add]at this;exact this
theorem oh{q:List UInt8}{nx:Int}(h:oU q nx):∃ x s,getB q 0=(x,((dH x).length:Int),0)∧q=dH x++s∧fp x=0∧nx≤x.base:=by
 obtain⟨h1,h2⟩:=h;obtain⟨b,s,e0,e1,e2,e3⟩:=vL h1;have hb:b=0:=by omega
 subst hb;exact⟨_,s,rU e3 e1,e1,e3,h2⟩
theorem qV{q s:List UInt8}{x:Batch}{nx:Int}(h0:fp x=0)(h:q=dH x++s):oU q nx↔nx≤x.base:=by
 rw[oU,rU h0 h];simp
theorem nI:∀ (f:Nat) (nx:Int) (q:List UInt8),q.length≤f→∃ r,Scans nx q (yF f nx q) r
 | 0,nx,q,h=>by
  have hq:q=[]:=List.eq_nil_of_length_eq_zero (by omega);subst hq;refine⟨[],⟨rfl,fun x hx=>(by cases hx),trivial,fun hm=>?_⟩⟩;obtain⟨x,s,-,e,-⟩:=oh hm;have:=gD x;have h2:=congrArg List.length e;simp at h2;omega
 | f+1,nx,q,h=>by
  unfold yF;split
  ·rename_i hm;obtain⟨x,s,e1,e2,e3,e4⟩:=oh hm;rw[e1];dsimp only;have hp:=gD x;have hd:q.drop (dH x).length=s:=by rw[e2,List.drop_left]
   rw[hd];obtain⟨r,hr⟩:=nI f (x.last+1) s (by rw[e2,List.length_append]at h;omega);refine⟨r,⟨by rw[fg,List.append_assoc,← hr.eq,e2],fun y hy=>?_,⟨e4,hr.ord⟩,hr.stop⟩⟩;rcases List.mem_cons.1 hy with rfl | hy
   ·exact e3
   ·exact hr.ok y hy
  ·rename_i hm;exact⟨q,⟨rfl,fun x hx=>(by cases hx),trivial,hm⟩⟩
theorem eX(s:Sg):∃ r,Scans s.base s.bytes (em s) r:=nI _ _ _ (Nat.le_refl _)
theorem Scans.uniq:∀ {bs bs':List Batch} {nx:Int} {q r r':List UInt8},Scans nx q bs r→Scans nx q bs' r'→bs=bs'∧r=r'
 | [],[],nx,q,r,r',h,h'=>⟨rfl,by have:=h.eq.symm.trans h'.eq;exact this⟩
 | [],x :: bs',nx,q,r,r',h,h'=>by
  have hq:q=r:=h.eq;subst hq;exact absurd ((qV (h'.ok x (.head _)) (by rw[h'.eq,fg,List.append_assoc])).2 h'.ord.1) h.stop
 | x :: bs,[],nx,q,r,r',h,h'=>by
  have hq:q=r':=h'.eq;subst hq;exact absurd ((qV (h.ok x (.head _)) (by rw[h.eq,fg,List.append_assoc])).2 h.ord.1) h'.stop
 | x :: bs,y :: bs',nx,q,r,r',h,h'=>by
  have e1:q=dH x++(fh bs++r):=by rw[h.eq,fg,List.append_assoc]
  have e2:q=dH y++(fh bs'++r'):=by rw[h'.eq,fg,List.append_assoc]
  have g1:=rU (h.ok x (.head _)) e1;have g2:=rU (h'.ok y (.head _)) e2;rw[g1]at g2;have hxy:x=y:=congrArg Prod.fst g2;subst hxy;rw[e1]at e2;have e3:=List.append_cancel_left e2;obtain⟨rfl,rfl⟩:=Scans.uniq (nx:=x.last+1) (q:=fh bs++r) ⟨rfl,fun z hz=>h.ok z (.tail _ hz),h.ord.2,h.stop⟩ ⟨e3,fun z hz=>h'.ok z (.tail _ hz),h'.ord.2,h'.stop⟩;exact⟨rfl,rfl⟩
theorem Scans.is{s:Sg}{bs:List Batch}{r:List UInt8}(h:Scans s.base s.bytes bs r):em s=bs:=by
 obtain⟨r',h'⟩:=eX s;exact(h'.uniq h).1
theorem vF{l:List UInt8}{a:Nat}:(getB l (a:Int)).1=(getB (l.drop a) 0).1∧(getB l (a:Int)).2.2=(getB (l.drop a) 0).2.2:=by
 have h1:jk l (a:Int) 4=jk (l.drop a) 0 4:=by
  unfold jk;rw[if_neg (show ¬ (a:Int) < 0 by omega),if_neg (show ¬ (0:Int) < 0 by omega)];simp only[Int.toNat_natCast,Int.toNat_zero,List.drop_zero]
 have h2:l.drop (a+4)=(l.drop a).drop 4:=by rw[List.drop_drop]
 unfold getB;rw[h1];simp only[Int.toNat_natCast,h2,Int.toNat_zero,Nat.zero_add];split
 ·split
  ·split
   ·split
    ·split <;> exact⟨rfl,rfl⟩
    ·exact⟨rfl,rfl⟩
   ·exact⟨rfl,rfl⟩
  ·exact⟨rfl,rfl⟩
 ·exact⟨rfl,rfl⟩
theorem iG(l:List Batch)(k:Nat):(fh (l.take k)).length≤(fh l).length:=by
 conv=>rhs;rw[← List.take_append_drop k l,kU,List.length_append]
 omega
theorem Scans.len{nx:Int}{q r:List UInt8}{bs:List Batch}(h:Scans nx q bs r):9 * bs.length≤(fh bs).length∧(fh bs).length≤q.length:=by
 refine⟨?_,by rw[h.eq,List.length_append];omega⟩;clear h
 induction bs with
 | nil=>simp
 | cons x bs ih =>
  have:=gD x;rw[fg,List.length_append,List.length_cons];omega
theorem Scans.at_{nx:Int}{q r:List UInt8}{bs:List Batch}(h:Scans nx q bs r){k:Nat}{x:Batch}(hx:bs[k]?=some x):
  getB q (((fh (bs.take k)).length:Nat):Int)=(x,(((fh (bs.take (k+1))).length:Nat):Int),0)∧fI nx (bs.take k)≤x.base∧fI nx (bs.take (k+1))=x.last+1∧fp x=0:=by
 have hd:q.drop (fh (bs.take k)).length=dH x++(fh (bs.drop (k+1))++r):=by
  have:=vq hx;rw[h.eq,List.drop_append_of_le_length (iG _ _),this,List.append_assoc]
 obtain⟨hk,he⟩:=List.getElem?_eq_some_iff.1 hx;have e1:bs=bs.take k++(x :: bs.drop (k+1)):=by
  conv=>lhs;rw[← List.take_append_drop k bs,List.drop_eq_getElem_cons hk,he]
 have ho:=h.ord;rw[e1,oB]at ho;have h0:=h.ok x (List.mem_of_getElem? hx);refine⟨?_,ho.2.1,?_,h0⟩
 ·rw[wj h0 hd,qj hx,List.length_append]
 ·rw[List.take_add_one,hx];show fI nx (bs.take k++[x])=_;rw[kT];rfl
theorem Scans.end_{nx:Int}{q r:List UInt8}{bs:List Batch}(h:Scans nx q bs r):¬ (getB q (((fh bs).length:Nat):Int)).2.2=0∨(getB q (((fh bs).length:Nat):Int)).1.base < fI nx bs:=by
 have hs:=h.stop;have hd:=@vF q (fh bs).length;have e:q.drop (fh bs).length=r:=by rw[h.eq,List.drop_left]
 rw[e]at hd;rw[hd.1,hd.2];unfold oU at hs;by_cases h0:(getB r 0).2.2=0
 ·right;have:¬ fI nx bs≤(getB r 0).1.base:=fun hh=>hs ⟨h0,hh⟩
  omega
 ·exact .inl h0
theorem F151:Fun Tryz.prog 151 4 v151 c151 o151:=Fun.mkA Tryz.func151 Tryz.ntmps151
theorem F177:Fun Tryz.prog 177 37 v177 c177 o177:=Fun.mkA Tryz.func177 Tryz.ntmps177
theorem F131:Fun Tryz.prog 131 17 v131 c131 o131:=Fun.mkA Tryz.func131 Tryz.ntmps131
theorem F114:Fun Tryz.prog 114 15 v114 c114 o114:=Fun.mkA Tryz.func114 Tryz.ntmps114
theorem lU{s:Nat}:∀ {L:List Kx.Item},dO L→rmR s L=L
 | [],_=>rfl
 | .reg s' cs :: L,h=>absurd (.head _) (h s' cs)
 | .blk b cs :: L,h=>congrArg (Kx.Item.blk b cs :: ·) (lU (s:=s) fun s cs hm=>h s cs (.tail _ hm))
 | .row v e sz n xs :: L,h=>congrArg (Kx.Item.row v e sz n xs :: ·) (lU (s:=s) fun s cs hm=>h s cs (.tail _ hm))
 | .obj b o :: L,h=>congrArg (Kx.Item.obj b o :: ·) (lU (s:=s) fun s cs hm=>h s cs (.tail _ hm))
theorem Fz{h:H}{b b':Nat}{c c':List Value}(hs:List.Sublist [Kx.Item.blk b c,.blk b' c'] h.L):ez h fun h'=>h'=h∧¬ b=b':=ez.fact fun β w s=>by
 have hd:(dom β [Kx.Item.blk b c,.blk b' c']).Sublist (dom β h.L):=hs.filterMap _;have:=hd.nodup (List.nodup_append.1 s.nd).1;simpa [dom,Item.block]using this
theorem eG{α:Type}{E E':α→List Value→Prop}{sz:Nat}{xs:List α}{ys:List Value}(h:Cells E sz xs ys)(hE:∀ x cs,E x cs→E' x cs):Cells E' sz xs ys:=by
 induction h with
 | nil=>exact .nil
 | cons h1 h2 _ ih=>exact .cons (hE _ _ h1) h2 ih
def iB(s:Sg)(A:Option Addr)(c:Nat):List Value:=[.int .i64 s.base,.slice A s.bytes.length c]
def SE(G:Nat→Option Obj)(s:Sg)(cs:List Value):Prop:=∃ A c,cs=iB s A c∧SB G (.slice A s.bytes.length c) s.bytes∧I64 s.base
theorem SE.le{G G':Nat→Option Obj}(hg:Gle G G'){s:Sg}{cs:List Value}(h:SE G s cs):SE G' s cs:=by
 obtain⟨A,c,h1,h2,h3⟩:=h;exact⟨A,c,h1,SB.le h2 hg,h3⟩
def EB(bs:List Batch)(G:Nat→Option Obj)(k:Nat)(args:Array Value):Prop:=∃ x cs,bs[k]?=some x∧BE G x cs∧args=#[.agg cs.toArray,.int .i64 (((fh (bs.take (k+1))).length:Nat):Int)]
theorem zT{x:Batch}(h:fp x=0):IntKind.i64.wrap (x.last+1)=x.last+1:=by
 obtain⟨⟨-,f2,-⟩,-⟩:=(iP h).1;simp[rng]at f2;rw[dU] <;> omega
theorem oJ{n k i:Nat}(h:(List.range n)[k]?=some i):i=k∧k < n:=by
 have h1:=(List.getElem?_eq_some_iff.1 h).1;rw[List.length_range]at h1;rw[List.getElem?_range h1]at h;cases h;exact⟨rfl,h1⟩
theorem tq(s:Sg)(A:Option Addr)(c b:Nat)(G0:Nat→Option Obj)(hl:SB G0 (.slice A s.bytes.length c) s.bytes)(hb:s.bytes.length≤1000000)(h0:eT G0 ⟨b,0,none⟩=some (.int .i64 s.base))(h1:eT G0 ⟨b,1,none⟩=some (.slice A s.bytes.length c)):
  km Tryz.prog 177 #[.pointer (some ⟨b,0,none⟩)] (List.range (em s).length) (EB (em s)) G0:=by
 obtain⟨r,hsc⟩:=eX s;generalize em s=bs at hsc;intro yl I Ix G L hG hn hI hIx hmo hi0 hy L2 D;have hargs:(#[.func (.yield yl) #[] #[]]++#[.pointer (some ⟨b,0,none⟩)]:Array Value)=#[.func (.yield yl) #[] #[],.pointer (some ⟨b,0,none⟩)]:=rfl;rw[hargs,List.length_range];refine(F177.calls (R:=fun _ h=>Gle G h.G∧(I bs.length h.G h.L∨∃ i,i < bs.length∧Ix i h.G h.L)) (by simp) hn (dF ?_) L2 D).mono ?_
 rotate_left
 ·rintro v h' ⟨G',L',rfl,hn',hgg,hr⟩;exact⟨G',L',rfl,hgg,hn',hr⟩
 have e0:=dJ hG h0;have e1:=dJ hG h1;have hlG:=SB.le hl hG;have hlen:=hsc.len;unfold c177
 (intros;try refine du ?_);refine xM 8 10 (by decide) ?_;refine sJ c177r0.eq_1 ?_
 refine⟨_,⟨_,rfl,.g e0⟩,?_⟩;refine sI ?_
 (intros;try refine du ?_)
 refine dW (fun e h=>∃ (t:Nat) (G':Nat→Option Obj) (L' Lh:List Kx.Item),(t≤bs.length∧Gle G G'∧dO L'∧I t G' L')∧e 3=.int .i64 (((fh (bs.take t)).length:Nat):Int)∧e 4=.int .i64 (fI s.base (bs.take t))∧e 0=.func (.yield yl) #[] #[]∧e 1=.pointer (some ⟨b,0,none⟩)∧h=⟨G',Lh,[]⟩∧L'.Sublist Lh) (fun e h=>s.bytes.length+1 - iv (e 3)) ?_ ?_
 ·exact⟨0,G,L,L,⟨Nat.zero_le _,.refl G,hn,hi0⟩,rfl,rfl,eE,eE,rfl,List.Sublist.refl _⟩
 rintro e h ⟨t,G',L',Lh,⟨ht,hgg,hn',hI'⟩,e3,e4,e00,e11,rfl,hsub⟩;refine dz [0,1,3,4] ?_;refine sJ4 @e00 @e11 @e3 @e4 ?_;intros;refine dx (dD hsub) ?_;have hrm:=lU (s:=5) hn';have e1':=dJ hgg e1;have hget:=Ba s.bytes (((fh (bs.take t)).length:Nat):Int) _ G' (SB.le hlG hgg) hb;unfold yk at hget;have htk:=iG bs t
 have hw1:IntKind.i64.wrap (((fh (bs.take t)).length:Nat):Int)=(((fh (bs.take t)).length:Nat):Int):=by rw[dU] <;> omega
 intros;refine gr 10 18 ?_;refine sJ c177r1.eq_1 ?_;refine⟨_,⟨_,rfl,.g e1'⟩,?_⟩;refine sI ?_;refine(hget _ _).mono ?_;rintro v h' ⟨G1,rfl,hg1,cs,rfl,hbe⟩;by_cases htl:t < bs.length
 ·obtain⟨x,hx⟩:∃ x,bs[t]?=some x:=⟨bs[t],List.getElem?_eq_getElem htl⟩;obtain⟨a1,a2,a3,a4⟩:=hsc.at_ hx;rw[a1]at hbe ⊢;dsimp only at hbe ⊢;have hbe0:=hbe;obtain⟨B,d,rfl,-⟩:=hbe;have hlt:(fh (bs.take t)).length < (fh (bs.take (t+1))).length:=by
   have:=gD x;rw[qj hx,List.length_append];omega
  have hle:=iG bs (t+1);have hEB:EB bs G1 t #[.agg (eS x (.slice B x.recs.length d)).toArray,.int .i64 (((fh (bs.take (t+1))).length:Nat):Int)]:=⟨x,_,hx,hbe0,rfl⟩;unfold eS at hbe0 hEB ⊢;generalize hn1:(fh (bs.take (t+1))).length=n1 at *;generalize (fh (bs.take t)).length=n0 at *;have a2':decide (x.base < fI s.base (bs.take t))=false:=decide_eq_false (by omega);have hlw:=zT a4;refine sJ @hrm ?_
  have hz:decide ((0:Int)≠0)=false:=by decide
  intros;refine gr 18 32 ?_;refine sJ3 c177r2.eq_1 @hz @a2' ?_;refine .inr ⟨yl,rfl,?_⟩;refine iK.ghost (d7 (List.perm_append_comm (l₁:=[_]))) ?_;refine(hy t t _ G1 L' (List.getElem?_range htl) (hgg.trans hg1) hEB (hmo _ _ _ _ hg1 hI') [_] []).mono ?_;rintro v h' ⟨G2,L3,rfl,hg2,hn2,hr⟩;rcases hr with⟨rfl,hr⟩ | ⟨rfl,hr⟩
  ·refine sI ?_;intros;refine gc ?_;refine sI ?_;refine dx (d7 (List.perm_append_comm (l₂:=[_]))) ?_
   (intros;try refine du ?_);refine xM 33 37 (by decide) ?_;refine sJ2 c177r3.eq_1 @hlw ?_
   (intros;try refine du ?_)
   refine eh ⟨⟨t+1,G2,L3,_,⟨by omega,(hgg.trans hg1).trans hg2,hn2,hr⟩,(eJ @hn1),(eJ @a3),eE,eE,rfl,.cons _ (List.Sublist.refl _)⟩,?_⟩;refine sI ?_;omega
  ·refine sI ?_;intros;refine gc ?_;refine sI ?_
   (intros;try refine du ?_)
   refine dC (dG L3 rfl (List.sublist_append_left _ _) hn2 ?_);exact⟨(hgg.trans hg1).trans hg2,.inr ⟨t,htl,hr⟩⟩
 ·have htl:t=bs.length:=by omega
  subst htl;rw[List.take_length]at hget hbe ⊢;have hend:=hsc.end_;generalize getB s.bytes (((fh bs).length:Nat):Int)=q at *;obtain⟨x,nx,er⟩:=q;dsimp only at hbe hend ⊢;obtain⟨B,d,rfl,-⟩:=hbe;unfold eS;have hfin:Gle G G1∧(I bs.length G1 L'∨∃ i,i < bs.length∧Ix i G1 L'):=⟨hgg.trans hg1,.inl (hmo _ _ _ _ hg1 hI')⟩;refine sJ @hrm ?_;intros;refine gr 18 32 ?_;refine sJ c177r2.eq_1 ?_
  refine gd (fun k1=>?_) (fun k1=>?_)
  ·refine sI ?_;intros;refine gc ?_;refine sI ?_
   (intros;try refine du ?_)
   exact dC (dG L' rfl (.cons _ (List.Sublist.refl _)) hn' hfin)
  ·have k1:er=0:=by simpa using k1
   have k2:decide (x.base < fI s.base bs)=true:=decide_eq_true (by rcases hend with h | h;exact absurd k1 h;exact h)
   refine sJ @k2 ?_;intros;refine gc ?_;refine sI ?_
   (intros;try refine du ?_)
   exact dC (dG L' rfl (.cons _ (List.Sublist.refl _)) hn' hfin)
theorem rG(s:Sg)(cs:List Value)(G:Nat→Option Obj)(hs:SE G s cs)(hb:s.bytes.length≤1000000):
  FnD Tryz.prog 151 #[.agg cs.toArray] G (fun G' r=>∃ b,r=.func (.func 177) #[] #[.pointer (some ⟨b,0,none⟩)]∧km Tryz.prog 177 #[.pointer (some ⟨b,0,none⟩)] (List.range (em s).length) (EB (em s)) G'):=by
 obtain⟨A,c,rfl,hl,hi⟩:=hs;refine F151.fnD (by simp) (dF ?_);unfold c151 iB;intros;refine gr 0 0 ?_;refine sJ c151r0.eq_1 ?_;intro b1 hb1
 (intros;try refine du ?_)
 refine ed jg ?_;rintro h' ⟨G1,rfl,hg1,hc1⟩;have e0:=hc1 0 _ rfl;have e1:=hc1 1 _ rfl;rw[es]at e0 e1;intros;refine gr 3 4 ?_;refine sJ c151r1.eq_1 ?_;intros;refine rV ?_;simp only[push_cast,Nat.reduceBEq];exact⟨b1,rfl,tq s A c b1 G1 (SB.le hl hg1) hb e0 e1⟩
def E1(s:Sg)(G':Nat→Option Obj)(L':List Kx.Item)(r:Value):Prop:=∃ u zc,r=.tuple #[u,.int .i64 ((fT s:Nat):Int)]∧Cells (BE G') 10 (em s) zc∧L'=[.row u 43 10 (em s).length zc]
theorem nO(s:Sg)(cs:List Value)(G:Nat→Option Obj)(hs:SE G s cs)(hb:s.bytes.length≤1000000):FnO Tryz.prog 131 #[.agg cs.toArray] G [] (fun G' L' r=>E1 s G' L' r):=by
 have hs0:=hs;obtain⟨A,c,rfl,hl,hi⟩:=hs;refine F131.fnO (by simp) dt (dF ?_);unfold c131;unfold iB at hs0 ⊢;intros;refine gr 0 0 ?_;refine sJ c131r0.eq_1 ?_;intro b1 hb1 b2 hb2 b3 hb3
 (intros;try refine du ?_)
 refine ed (ec [_,_] _) ?_;rintro h' ⟨G1,rfl,hg1,f1⟩;have e0:=f1 0 _ rfl;have e1:=f1 1 _ rfl;rw[es]at e0 e1;intros;refine gr 6 7 ?_;refine sJ c131r1.eq_1 ?_;refine⟨_,⟨_,[.int .i64 s.base,.slice A s.bytes.length c],rfl,rfl,rfl,fun j u hu=>.g (f1 j u hu)⟩,?_⟩;refine sI ?_;refine(rG s _ G1 (SE.le hg1 hs0) hb _ _).mono ?_;rintro r h' ⟨G2,rfl,hg2,b,rfl,hit⟩;obtain⟨rr,hsc⟩:=eX s
 have hSR:∀ G' u zc,Cells (BE G') 10 (em s) zc→E1 s G' [.row u 43 10 (em s).length zc] (.tuple #[u,.int .i64 (((fh (em s)).length:Nat):Int)]):=fun G' u zc h=>⟨u,zc,rfl,h,rfl⟩
 generalize em s=bs at hit hsc hSR;have hlen:=hsc.len;refine sI ?_
 (intros;try refine du ?_)
 refine dx (dR none 43 10) ?_;refine qA (α:=Nat) (fun k G' L'=>∃ u zc,L'=[.row u 43 10 (bs.take k).length zc,.blk b3 [.int .i64 (((fh (bs.take k)).length:Nat):Int)],.blk b2 [u]]∧Cells (BE G') 10 (bs.take k) zc) (fun _ _ _ _=>False) (eE) F177.enters (dw (dA (dA dt)))
  (fun i G G' L hg ⟨u,zc,h1,h2⟩=>⟨u,zc,h1,eG h2 fun _ _ h=>BE.le hg h⟩) hit (fun G x args h=>by obtain⟨y,_,_,_,rfl⟩:=h;rfl) ⟨_,[],rfl,.nil⟩ ?_ ?_ ?_
 ·rintro yl k i args G' L' hki hgl ⟨x,cs,hx,hbe,rfl⟩ ⟨u,zc,rfl,hzc⟩ _;obtain⟨rfl,hkl⟩:=oJ hki;have hbe0:=hbe;obtain⟨B,d,rfl,-⟩:=hbe;unfold eS at hbe0 ⊢;refine sI ?_;intros;refine gr 0 0 ?_;refine sJ c131r2.eq_1 ?_;intros;refine gr 0 0 ?_;refine sJ c131r3.eq_1 ?_;intro bb;refine fN (rc ?_);have htk:bs.take (i+1)=bs.take i++[x]:=by rw[List.take_add_one,hx];rfl
  have hkl2:(bs.take i).length≤bs.length:=by rw[List.length_take];omega
  intros;refine gr 10 15 ?_;refine sJ c131r4.eq_1 ?_;refine⟨_,dE (.tail _ (.tail _ (.tail _ (.head _)))) rfl,?_⟩;refine sI ?_;intro bk hbk;refine x8 (L1:=[_]) (L2:=[_,_]) (E:=BE G') (x:=x) rfl hbe0 rfl (by simp[Value.oneCell']) hzc (by omega) (by omega) fun A' c' zc' hzc'=>?_
  rw[← htk]at hzc' ⊢;refine sI ?_;refine dI [_,_,_,_] [] rfl (by simp) ⟨rfl,rfl⟩ ?_;refine sI ?_;refine dI [_,_,_] [_] rfl (by simp) ⟨rfl,rfl⟩ ?_;refine sI ?_
  (intros;try refine du ?_)
  refine fN (pR _ (.cons _ (.cons _ (List.Sublist.refl _))) (dw (dA (dA dt))) ⟨_,zc',rfl,hzc'⟩)
 ·rintro G' L' dd hgl ⟨u,zc,rfl,hzc⟩ _;rw[List.length_range]at hzc ⊢;rw[List.take_length]at hzc ⊢
  (intros;try refine du ?_)
  refine ed (gK (.head _)) ?_;rintro h' ⟨rfl,A2,c2,rfl,-,-⟩;refine ed (Fz (.cons _ (List.Sublist.refl _))) ?_;rintro h' ⟨rfl,hne⟩
  (intros;try refine du ?_);refine qm _ (List.Sublist.refl _) (by decide) ?_;refine sJ c131r5.eq_1 ?_
  refine⟨_,dE (.tail _ (.tail _ (.head _))) rfl,?_⟩;refine sI ?_;refine⟨_,dE (.tail _ (.head _)) rfl,?_⟩;refine sI ?_;refine dI [_,_] [] rfl (by simp) ⟨rfl,rfl⟩ ?_;refine sI ?_;refine dI [_] [_] rfl (by simp) ⟨rfl,rfl⟩ ?_;refine sI ?_
  (intros;try refine du ?_)
  refine dC (dG (out:=[.slice A2 bs.length c2,.int .i64 (((fh bs).length:Nat):Int)]) _ ?_ (.cons_cons _ (List.nil_sublist _)) (dw dt) (hSR G' _ _ hzc));simp[o131,l6,Kx.getB,ud,ldC,Env.set,hne]
 ·rintro ex i G' L' d _ _ h;exact h.elim
theorem xZ{bs:List Batch}{k:Nat}{x:Batch}(nx:Int)(hx:bs[k]?=some x):fI nx (bs.take (k+1))=x.last+1:=by
 rw[List.take_add_one,hx];show fI nx (bs.take k++[x])=_;rw[kT];rfl
theorem wv(s:Sg)(cs:List Value)(G:Nat→Option Obj)(hs:SE G s cs)(hb:s.bytes.length≤1000000):FnS Tryz.prog 114 #[.agg cs.toArray] G (.int .i64 (jL s)):=by
 have hs0:=hs;obtain⟨A,c,rfl,hl,hi⟩:=hs;refine F114.fnS (by simp) (dF ?_);unfold c114;unfold iB at hs0 ⊢;intros;refine gr 0 0 ?_;refine sJ c114r0.eq_1 ?_;intro b1 hb1
 (intros;try refine du ?_)
 refine ed jg ?_;rintro h' ⟨G1,rfl,hg1,f1⟩;have e0:=f1 0 _ rfl;rw[es]at e0;intros;refine gr 5 7 ?_;refine sJ c114r1.eq_1 ?_;refine⟨_,⟨_,rfl,.g e0⟩,?_⟩;refine sI ?_;intro b3 hb3;refine dI [] [] rfl (by simp) ⟨rfl,rfl⟩ ?_;refine sI ?_;intros;refine gr 7 8 ?_;refine sJ c114r2.eq_1 ?_;refine⟨_,⟨_,[.int .i64 s.base,.slice A s.bytes.length c],rfl,rfl,rfl,fun j u hu=>.g (f1 j u hu)⟩,?_⟩;refine sI ?_
 refine(rG s _ G1 (SE.le hg1 hs0) hb _ _).mono ?_;rintro r h' ⟨G2,rfl,hg2,b,rfl,hit⟩;obtain⟨rr,hsc⟩:=eX s;have hend:jL s=fI s.base (em s):=rfl;generalize em s=bs at hit hsc hend;refine sI ?_
 (intros;try refine du ?_)
 refine qA (α:=Nat) (fun k G' L'=>L'=[.blk b3 [.int .i64 (fI s.base (bs.take k))]]) (fun _ _ _ _=>False) (eE) F177.enters (dA dt)
  (fun i G G' L hg h=>h) hit (fun G x args h=>by obtain⟨y,_,_,_,rfl⟩:=h;rfl) rfl ?_ ?_ ?_
 ·rintro yl k i args G' L' hki hgl ⟨x,cs,hx,hbe,rfl⟩ rfl _;obtain⟨rfl,hkl⟩:=oJ hki;obtain⟨B,d,rfl,-⟩:=hbe;have hlw:=zT (hsc.ok x (List.mem_of_getElem? hx));unfold eS;refine sI ?_;intros;refine gr 0 0 ?_;refine sJ c114r3.eq_1 ?_;intro bb;refine fN (rc ?_);intros;refine gr 12 14 ?_;refine sJ2 c114r4.eq_1 @hlw ?_;refine dI [_] [] rfl (by simp) ⟨rfl,rfl⟩ ?_;refine sI ?_
  (intros;try refine du ?_)
  refine fN (pR [.blk b3 [.int .i64 (x.last+1)]] (.cons _ (List.Sublist.refl _)) (dA dt) ?_);rw[xZ s.base hx]
 ·rintro G' L' dd hgl rfl _;rw[List.length_range,List.take_length,← hend];intros;refine gr 14 15 ?_;refine sJ c114r5.eq_1 ?_;refine⟨_,dE (.head _) rfl,?_⟩;refine sI ?_;intros;refine rV ?_;simp only[push_cast,Nat.reduceBEq]
 ·rintro ex i G' L' d _ _ h;exact h.elim
end Go.Proofs.YtpmofpekcbghnaaGreat
namespace Go.Proofs.YtpmofpekcbghnaaGreat
open Go Go.Kx Go.RowKit
theorem vr(W:World):fR Tryz.prog W 120 (SE (m9 W)):=fun H enc fuel cs x hx=>by
 obtain⟨hl,hf⟩:=gj Tryz.underlying120 (by kernel_rfl) (by kernel_rfl) hx;obtain⟨v0,_,_,c0,t0⟩:=hf 0 _ rfl;obtain⟨v1,_,_,c1,t1⟩:=hf 1 _ rfl;obtain⟨n0,e0,w0⟩:=(eb Tryz.underlying3).at_ t0;obtain⟨n1,A,c,e1,w1⟩:=(rm W).at_ t1;cases e0;cases e1;refine⟨⟨n0,n1⟩,A,c,?_,⟨A,c,rfl,w1⟩,fx w0⟩
 match cs,hl with
 | [_,_],_=>cases c0;cases c1;rfl
end Go.Proofs.YtpmofpekcbghnaaGreat
namespace Go.Proofs.YtpmofpekcbghnaaGreat
open Go Go.Kx
theorem F172:Fun Tryz.prog 172 13 v172 c172 o172:=Fun.mkA Tryz.func172 Tryz.ntmps172
theorem F155:Fun Tryz.prog 155 9 v155 c155 o155:=Fun.mkA Tryz.func155 Tryz.ntmps155
theorem F156:Fun Tryz.prog 156 9 v156 c156 o156:=Fun.mkA Tryz.func156 Tryz.ntmps156
theorem F158:Fun Tryz.prog 158 10 v158 c158 o158:=Fun.mkA Tryz.func158 Tryz.ntmps158
theorem F181:Fun Tryz.prog 181 27 v181 c181 o181:=Fun.mkA Tryz.func181 Tryz.ntmps181
theorem F157:Fun Tryz.prog 157 36 v157 c157 o157:=Fun.mkA Tryz.func157 Tryz.ntmps157
theorem qS{α:Type}{P:Program}{f:FuncId}{args:Array Value}{G:Nat→Option Obj}{E:α→List Value→Prop}{et sz:Nat}{zs:List α}(hf:FnO P f args G [] (fun _ L' r=>xH E et sz zs L' r)):
  FnO P f args G [] (fun _ L' r=>∃ A c ys,r=.slice A zs.length c∧(zs.length≤c∧c≤maxLen)∧Cells E sz zs ys∧L'=[.row r et sz zs.length ys]):=fun L D =>
 (hf L D).gx fun v h' ⟨G',L',he,hg,ys,hc,hL⟩=>by
  subst he hL;exact(gK (.head _)).mono fun h' ⟨h1,A,c,h2,h3,h4⟩=>⟨G',_,h1,hg,A,c,ys,h2,⟨h3,h4⟩,hc,rfl⟩
def iU:Sg:=⟨0,[]⟩
def uV(s:Sg)(L':List Kx.Item)(r:Value):Prop:=∃ u zc,r=.agg #[.int .i64 s.base,u]∧L'=[.row u 5 1 s.bytes.length zc]∧Cells UE 1 s.bytes zc
def tG(p:Sg × Int)(L':List Kx.Item)(r:Value):Prop:=∃ u zc,r=.tuple #[.agg #[.int .i64 p.1.base,u],.int .i64 p.2]∧L'=[.row u 5 1 p.1.bytes.length zc]∧Cells UE 1 p.1.bytes zc
def ng(n:Int):Bool:=decide (1≤n) && decide (n≤4096)
theorem rR(n:Int)(G:Nat→Option Obj):FnS Tryz.prog 155 #[.int .i64 n] G (.bool (inO n)):=by
 refine F155.fnS (by simp) (dF ?_);unfold c155;intros;refine gr 0 0 ?_;refine sJ c155r0.eq_1 ?_;intros;refine gr 3 9 ?_;refine sJ c155r1.eq_1 ?_;refine gd (fun h=>?_) (fun h=>?_)
 ·have h:=of_decide_eq_true h;refine sI ?_;intros;refine rV ?_;simp only[push_cast,Nat.reduceBEq];rw[inO,decide_eq_true h,Bool.true_and]
 ·have h:=of_decide_eq_false h;refine sI ?_;intros;refine rV ?_;simp only[push_cast,Nat.reduceBEq];rw[inO,decide_eq_false h,Bool.false_and]
theorem ny(n:Int)(G:Nat→Option Obj):FnS Tryz.prog 156 #[.int .i64 n] G (.bool (ng n)):=by
 refine F156.fnS (by simp) (dF ?_);unfold c156;intros;refine gr 0 0 ?_;refine sJ c156r0.eq_1 ?_;intros;refine gr 3 9 ?_;refine sJ c156r1.eq_1 ?_;refine gd (fun h=>?_) (fun h=>?_)
 ·have h:=of_decide_eq_true h;refine sI ?_;intros;refine rV ?_;simp only[push_cast,Nat.reduceBEq];rw[ng,decide_eq_true h,Bool.true_and]
 ·have h:=of_decide_eq_false h;refine sI ?_;intros;refine rV ?_;simp only[push_cast,Nat.reduceBEq];rw[ng,decide_eq_false h,Bool.false_and]
def uf(base:Int):Sg × Int:=if inO base=true then(⟨base,[]⟩,0)else(iU,1)
theorem E8(base:Int)(G:Nat→Option Obj):FnO Tryz.prog 158 #[.int .i64 base] G [] (fun _ L' r=>tG (uf base) L' r):=by
 refine F158.fnO (by simp) dt (dF ?_);unfold c158;intros;refine gr 0 0 ?_;refine sJ c158r0.eq_1 ?_;intros;refine gr 4 6 ?_;refine sJ c158r1.eq_1 ?_;refine(rR _ _ _ _).mono ?_;rintro _ _ ⟨rfl,rfl⟩;refine sI ?_;intros;refine gc ?_;refine sI ?_;refine gb (fun h=>?_) (fun h=>?_)
 ·have h:¬ inO base=true:=by simpa using h
  intros;refine gr 7 8 ?_;refine sJ c158r2.eq_1 ?_
  (intros;try refine du ?_)
  refine dx (dR none 5 1) ?_;refine dC (dG _ rfl (.cons_cons _ (List.nil_sublist _)) (dw dt) ?_);rw[uf,if_neg h];exact⟨_,[],rfl,rfl,.nil⟩
 ·have h:inO base=true:=by simpa using h
  intros;refine gN ?_;intros;refine gr 8 10 ?_;refine sJ c158r3.eq_1 ?_
  (intros;try refine du ?_)
  refine dx (dR none 5 1) ?_;refine dC (dG _ rfl (.cons_cons _ (List.nil_sublist _)) (dw dt) ?_);rw[uf,if_pos h];exact⟨_,[],rfl,rfl,.nil⟩
theorem C2(n:Nat)(G:Nat→Option Obj)(hn:n≤1000000):FnO Tryz.prog 181 #[.slice none 0 0,.int .i64 (n:Int)] G [] (fun _ L' r=>qD [] L' r):=by
 refine F181.fnO (by simp) dt (dF ?_);unfold c181;have w1:IntKind.i64.wrap ((n:Int) - IntKind.i64.wrap (0 - 0))=(n:Int):=by simp only[IntKind.wrap_i64];omega
 have h0:decide ((n:Int) < 0)=false:=decide_eq_false (by omega);intros;refine gr 0 0 ?_;refine sJ c181r0.eq_1 ?_;intros;refine gr 5 6 ?_;refine sJ2 c181r1.eq_1 @h0 ?_;intros;refine gc ?_;refine sI ?_;intros;refine gN ?_;intros;refine gr 8 15 ?_;refine sJ2 c181r2.eq_1 @w1 ?_;intros;refine gr 15 16 ?_;refine sJ c181r3.eq_1 ?_;intros;refine dx (dR none 5 1) ?_
 refine eA (fun e h=>∃ A c m zc Lh,e 0=.slice A 0 c∧h=⟨G,Lh,[]⟩∧[Kx.Item.row (.slice A m c) 5 1 m zc].Sublist Lh) ?_ ?_
 ·intros;refine gc ?_;refine sI ?_;refine gb (fun h1=>?_) (fun h1=>?_)
  ·have h1:=of_decide_eq_true h1;intros;refine gr 17 26 ?_;refine sJ c181r4.eq_1 ?_;refine⟨by omega,?_⟩;refine⟨n,⟨rfl,rfl⟩,⟨by omega,by omega,by unfold maxLen;omega⟩,?_⟩;intro g c zs hg;refine sI ?_;refine⟨by omega,?_⟩;refine sI ?_
   (intros;try refine du ?_)
   exact eh ⟨_,c,n,zs,_,rfl,rfl,.cons_cons _ (List.nil_sublist _)⟩
  ·(intros;try refine du ?_)
   exact eh ⟨none,0,0,[],_,eE,rfl,List.Sublist.refl _⟩
 rintro e h ⟨A,c,m,zc,Lh,e0,rfl,hsub⟩;refine dz [0] ?_;refine sJ @e0 ?_;intros;intros;try refine dv ?_
 refine dx (dD hsub) ?_;refine dx (mY (L1:=[]) (L2:=[]) (m:=0) (Nat.zero_le _)) ?_;intros;refine gr 26 27 ?_;refine sJ c181r5.eq_1 ?_
 (intros;try refine du ?_)
 refine dC (dG _ rfl (List.Sublist.refl _) (dw dt) ?_);refine⟨[],.nil,?_⟩;simp;rfl
theorem sH(s:Sg)(n:Nat)(cs:List Value)(G:Nat→Option Obj)(hs:SE G s cs)(hb:s.bytes.length≤1000000)(hn:n≤s.bytes.length):
  FnO Tryz.prog 172 #[.agg cs.toArray,.int .i64 (n:Int)] G [] (fun _ L' r=>uV ⟨s.base,s.bytes.take n⟩ L' r):=by
 obtain⟨A,c,rfl,hl,hi⟩:=hs;refine F172.fnO (by simp) dt (dF ?_);have hpre:=SlV.pre n hl hn;obtain⟨A0,c0,he,h1,h2,h3⟩:=hl;cases he;unfold c172 iB;intros;refine gr 0 0 ?_;refine sJ c172r0.eq_1 ?_
 (intros;try refine du ?_);refine Dj _ (List.Sublist.refl _) (by decide) ?_;refine sJ c172r1.eq_1 ?_
 refine⟨by omega,?_⟩;refine(qS (oL _ _ G hpre (by simp;omega)) _ _).mono ?_;rintro r h' ⟨G1,L',rfl,hg1,A1,c1,ys,rfl,-,hys,rfl⟩;refine⟨dK hg1 (.cons _ (List.Sublist.refl _)),?_⟩;refine sI ?_;refine sJ c172r2.eq_1 ?_
 (intros;try refine du ?_)
 refine dC (dG _ rfl (.cons_cons _ (List.nil_sublist _)) (dw dt) ?_);exact⟨_,ys,rfl,rfl,hys⟩
def EBs(G:Nat→Option Obj)(l:List UInt8)(cs:List Value):Prop:=∃ v,cs=[v]∧SB G v l
theorem o8{ll:List (List UInt8)}{k:Nat}{l:List UInt8}(h:ll[k]?=some l):(ll.take (k+1)).flatten=(ll.take k).flatten++l:=by
 rw[List.take_add_one,h];simp
theorem u6(ll:List (List UInt8))(k:Nat):(ll.take k).flatten.length≤ll.flatten.length:=by
 conv=>rhs;rw[← List.take_append_drop k ll,List.flatten_append,List.length_append]
 omega
theorem wF(ll:List (List UInt8))(v:Value)(G:Nat→Option Obj)(hl:SlV G (EBs G) 1 v ll)(hb:ll.flatten.length≤1000000):FnO Tryz.prog 157 #[v] G [] (fun _ L' r=>qD ll.flatten L' r):=by
 obtain⟨A,c,rfl,hc,hm,hA⟩:=hl;refine F157.fnO (by simp) dt (dF ?_);unfold c157;intros;refine gr 0 0 ?_;refine sJ c157r0.eq_1 ?_;intros;refine gr 0 0 ?_;refine sJ c157r1.eq_1 ?_;intros;refine gr 0 0 ?_;refine sJ c157r2.eq_1 ?_;intros;intros;try refine dv ?_
 refine eA (fun e h=>e 3=.int .i64 ((ll.flatten.length:Nat):Int)∧e 0=.slice A ll.length c∧h=⟨G,[],[]⟩) ?_ ?_
 ·(intros;try refine du ?_)
  refine dW (fun e h=>∃ k:Nat,k≤ll.length∧e 11=.int .i64 k∧e 10=.int .i64 ll.length∧e 9=.slice A ll.length c∧e 0=.slice A ll.length c∧e 3=.int .i64 (((ll.take k).flatten.length:Nat):Int)∧h=⟨G,[],[]⟩) (fun e h=>ll.length - iv (e 11)) ?_ ?_
  ·exact⟨0,Nat.zero_le _,eE,eE,eE,eE,rfl,rfl⟩
  rintro e h ⟨k,hk,e11,e10,e9,e0,e3,rfl⟩;refine dz [0,3,9,10,11] ?_;refine sJ5 @e0 @e3 @e9 @e10 @e11 ?_;intros;refine gr 0 0 ?_;refine sJ c157r3.eq_1 ?_;intros;refine gc ?_;refine sI ?_;refine gb (fun ht=>?_) (fun ht=>?_)
  ·have ht:k < ll.length:=by have:=of_decide_eq_true ht;omega
   have hw:=fz k c (by omega) hm;obtain⟨x,hx⟩:∃ x,ll[k]?=some x:=⟨ll[k],List.getElem?_eq_getElem (by omega)⟩;have h1:=o8 hx;have h2:=u6 ll (k+1);have h3:(ll.take (k+1)).flatten.length=(ll.take k).flatten.length+x.length:=by rw[h1,List.length_append]
   generalize hn1:(ll.take (k+1)).flatten.length=n1 at *;generalize (ll.take k).flatten.length=n0 at *;have hw2:IntKind.i64.wrap ((n0:Int)+(x.length:Int))=(n1:Int):=by rw[dU] <;> omega
   have hneg:decide ((n1:Int) < 0)=false:=decide_eq_false (by omega);intros;refine gN ?_;intros;refine gr 13 15 ?_;refine sJ c157r4.eq_1 ?_;refine hA.x_l1 hx rfl rfl ?_;rintro a1 ha1 u ⟨u',hu,B,d,rfl,-⟩;cases hu;refine sI ?_;intros;refine gr 15 19 ?_;refine sJ2 c157r5.eq_1 @hw2 ?_;intros;refine gr 19 20 ?_;refine sJ2 c157r6.eq_1 @hneg ?_;intros;refine gc ?_;refine sI ?_;intros;refine gN ?_
   intros;refine gr 22 23 ?_;refine sJ2 c157r7.eq_1 @hw ?_
   (intros;try refine du ?_)
   refine eh ⟨⟨k+1,by omega,eE,eE,eE,eE,(eJ @hn1),rfl⟩,?_⟩;refine sI ?_;omega
  ·have ht:k=ll.length:=by have:=of_decide_eq_false ht;omega
   subst ht;have htk:ll.take ll.length=ll:=List.take_length;refine dT ?_;refine sI ?_;intros;refine gN ?_;exact eh ⟨(eJ @htk),eE,rfl⟩
 rintro e h ⟨e3,e0,rfl⟩;refine dz [0,3] ?_;refine sJ2 @e0 @e3 ?_;intros;intros;refine gr 23 25 ?_;refine sJ c157r8.eq_1 ?_;refine(qS (C2 ll.flatten.length G hb) _ []).mono ?_;rintro r h' ⟨G1,L',rfl,hg1,A1,c1,ys,rfl,-,hys,rfl⟩;refine sI ?_;intros;refine gr 0 0 ?_;refine sJ c157r9.eq_1 ?_;intros;have hA1:=hA.le hg1 (E':=EBs G1) fun _ _ ⟨u,h1,h2⟩=>⟨u,h1,SB.le h2 hg1⟩
 refine eA (fun e h=>∃ u zc,Cells UE 1 ll.flatten zc∧e 6=u∧h=⟨G1,[.row u 5 1 ll.flatten.length zc],[]⟩) ?_ ?_
 ·(intros;try refine du ?_)
  refine dW (fun e h=>∃ (k:Nat) (u:Value) (zc:List Value),(k≤ll.length∧Cells UE 1 (ll.take k).flatten zc)∧e 27=.int .i64 k∧e 26=.int .i64 ll.length∧e 25=.slice A ll.length c∧e 6=u∧h=⟨G1,[.row u 5 1 (ll.take k).flatten.length zc],[]⟩) (fun e h=>ll.length - iv (e 27)) ?_ ?_
  ·exact⟨0,_,ys,⟨Nat.zero_le _,hys⟩,eE,eE,eE,eE,rfl⟩
  rintro e h ⟨k,u,zc,⟨hk,hzc⟩,e27,e26,e25,e6,rfl⟩;refine dz [6,25,26,27] ?_;refine sJ4 @e6 @e25 @e26 @e27 ?_;intros;refine gr 0 0 ?_;refine sJ c157r10.eq_1 ?_;intros;refine gc ?_;refine sI ?_;refine gb (fun ht=>?_) (fun ht=>?_)
  ·have ht:k < ll.length:=by have:=of_decide_eq_true ht;omega
   have hw:=fz k c (by omega) hm;obtain⟨x,hx⟩:∃ x,ll[k]?=some x:=⟨ll[k],List.getElem?_eq_getElem (by omega)⟩;have h1:=o8 hx;have h2:=u6 ll (k+1);have h3:(ll.take (k+1)).flatten.length=(ll.take k).flatten.length+x.length:=by rw[h1,List.length_append]
   intros;refine gN ?_;intros;refine gr 29 31 ?_;refine sJ c157r11.eq_1 ?_;refine hA1.x_l1 hx rfl rfl ?_;rintro a1 ha1 u1 ⟨u',hu,hsb⟩;cases hu;refine sI ?_;intros;refine gr 31 34 ?_;refine sJ c157r12.eq_1 ?_;refine l5 (L1:=[]) (.inl rfl) hsb rfl UE1 (by unfold maxLen;omega) fun ys1 A2 c2 hc2=>?_
   have hh:=hzc.app hc2;rw[← h1]at hh;rw[← h3];refine sI ?_;intros;refine gN ?_;intros;refine gr 34 35 ?_;refine sJ2 c157r13.eq_1 @hw ?_
   (intros;try refine du ?_)
   refine eh ⟨⟨k+1,_,_,⟨by omega,hh⟩,eE,eE,eE,eE,rfl⟩,?_⟩;refine sI ?_;omega
  ·have ht:k=ll.length:=by have:=of_decide_eq_false ht;omega
   subst ht;rw[List.take_length]at hzc ⊢;refine dT ?_;refine sI ?_;intros;refine gN ?_;exact eh ⟨u,zc,hzc,eE,rfl⟩
 rintro e h ⟨u,zc,hzc,e6,rfl⟩;refine dz [6] ?_;refine sJ @e6 ?_;intros;intros;refine gr 35 36 ?_;refine sJ c157r14.eq_1 ?_
 (intros;try refine du ?_)
 refine dC (dG _ rfl (List.Sublist.refl _) (dw dt) ?_);exact⟨zc,hzc,rfl⟩
theorem F121:Fun Tryz.prog 121 69 v121 c121 o121:=Fun.mkA Tryz.func121 Tryz.ntmps121
def jn(s:Sg)(x:Batch)(limit:Int):Sg × Int :=
 if fT s=s.bytes.length∧inO s.base=true∧ng limit=true then
  if fp x=0 then
   if x.base < jL s then(iU,71)
   else if limit < ((s.bytes.length+(dH x).length:Nat):Int)then(iU,70)
   else(⟨s.base,s.bytes++dH x⟩,0)
  else(iU,fp x)
 else(iU,1)
theorem EN{s:Sg}{x:Batch}{limit:Int}(h:¬ (fT s=s.bytes.length∧inO s.base=true∧ng limit=true)):jn s x limit=(iU,1):=if_neg h
theorem DT{s:Sg}{x:Batch}{limit:Int}(h:fT s=s.bytes.length∧inO s.base=true∧ng limit=true)(h1:¬ fp x=0):jn s x limit=(iU,fp x):=by rw[jn,if_pos h,if_neg h1]
theorem Ec{s:Sg}{x:Batch}{limit:Int}(h:fT s=s.bytes.length∧inO s.base=true∧ng limit=true)(h1:fp x=0)(h2:x.base < jL s):jn s x limit=(iU,71):=by rw[jn,if_pos h,if_pos h1,if_pos h2]
theorem Aq{s:Sg}{x:Batch}{limit:Int}(h:fT s=s.bytes.length∧inO s.base=true∧ng limit=true)(h1:fp x=0)(h2:¬ x.base < jL s)(h3:limit < ((s.bytes.length+(dH x).length:Nat):Int)):jn s x limit=(iU,70):=by rw[jn,if_pos h,if_pos h1,if_neg h2,if_pos h3]
theorem ww{s:Sg}{x:Batch}{limit:Int}(h:fT s=s.bytes.length∧inO s.base=true∧ng limit=true)(h1:fp x=0)(h2:¬ x.base < jL s)(h3:¬ limit < ((s.bytes.length+(dH x).length:Nat):Int)):jn s x limit=(⟨s.base,s.bytes++dH x⟩,0):=by rw[jn,if_pos h,if_pos h1,if_neg h2,if_neg h3]
theorem mg(s:Sg):fT s≤s.bytes.length:=by
 obtain⟨r,h⟩:=eX s;exact h.len.2
theorem pZ(s:Sg)(x:Batch)(limit:Int)(cs ds:List Value)(G:Nat→Option Obj)(hs:SE G s cs)(hb:s.bytes.length≤100000)(hx:BE G x ds)(hi:I64 limit):
  FnO Tryz.prog 121 #[.agg cs.toArray,.agg ds.toArray,.int .i64 limit] G [] (fun _ L' r=>tG (jn s x limit) L' r):=by
 have hscan:=nO s cs G hs (by omega);have hput:=oS x ds G hx;have hs0:=hs;have hx0:=hx;obtain⟨A,c,rfl,hl,hib⟩:=hs;obtain⟨B,d,rfl,-⟩:=hx;have hgl:=mg s;refine F121.fnO (by simp) dt (dF ?_);unfold c121;unfold iB at hscan hs0 ⊢;unfold eS at hput hx0 ⊢;intros;refine gr 0 0 ?_;refine sJ c121r0.eq_1 ?_;intros;refine gr 12 17 ?_;refine sJ c121r1.eq_1 ?_;refine(hscan _ _).mono ?_
 rintro r h' ⟨G1,L',rfl,hg1,u,zc,rfl,-,rfl⟩;refine sI ?_;intros;refine dx (dD (.cons _ (List.Sublist.refl _))) ?_;intros;try refine dv ?_
 have hbad:∀ (fr:List Td) (e:Env) (X:List Kx.Item) (Y:List Value),¬ (fT s=s.bytes.length∧inO s.base=true∧ng limit=true)→go none Tryz.prog 69 v121.1 v121.2 (fW o121 fun v h=>tG (jn s x limit) h.L v) (Td.s ((SC.reg false c121r3).seq .ret) :: fr) e ⟨G1,.reg 6 [.int .i64 0,.slice none 0 0] :: X,[]⟩:=fun fr e X Y hn=>by
  intros;refine gr 33 34 ?_;refine sJ c121r3.eq_1 ?_
  (intros;try refine du ?_)
  refine dx (dR none 5 1) ?_;refine dC (dG _ rfl (.cons_cons _ (List.nil_sublist _)) (dw dt) ?_);rw[EN hn];exact⟨_,[],rfl,rfl,.nil⟩
 intros;refine gr 17 32 ?_;refine sJ c121r2.eq_1 ?_;refine gd (fun k1=>?_) (fun k1=>?_)
 ·refine sI ?_;intros;refine gc ?_;refine sI ?_;exact hbad _ _ _ [] fun h=>of_decide_eq_true k1 (by rw[h.1])
 have k1:fT s=s.bytes.length:=by have:=of_decide_eq_false k1;omega
 refine sI ?_;refine(rR _ _ _ _).mono ?_;rintro _ _ ⟨rfl,rfl⟩;refine sI ?_;refine gd (fun k2=>?_) (fun k2=>?_)
 ·refine sI ?_;intros;refine gc ?_;refine sI ?_;exact hbad _ _ _ [] fun h=>by rw[h.2.1]at k2;cases k2
 have k2:inO s.base=true:=by simpa using k2
 refine sI ?_;refine(ny _ _ _ _).mono ?_;rintro _ _ ⟨rfl,rfl⟩;refine sI ?_;intros;refine gc ?_;refine sI ?_;refine gb (fun k3=>?_) (fun k3=>?_)
 ·exact hbad _ _ _ [] fun h=>by rw[h.2.2]at k3;cases k3
 have k3:ng limit=true:=by simpa using k3
 clear hbad;have hok:fT s=s.bytes.length∧inO s.base=true∧ng limit=true:=⟨k1,k2,k3⟩;intros;refine gN ?_;have hput:=oS x _ G1 (BE.le hg1 hx0);intros;refine gr 34 39 ?_;refine sJ c121r4.eq_1 ?_;refine(hput _ _).mono ?_;rintro r h' ⟨G2,L',rfl,hg2,w,rfl,ys,hys,rfl⟩;refine sI ?_;intros;try refine dv ?_
 refine ed (dQ [] _ (by decide) hys) ?_;rintro h' ⟨G3,rfl,hg3,hv3⟩;have hg03:=hg1.trans (hg2.trans hg3);by_cases he:fp x=0;rotate_left
 ·rw[wN he]at hv3 ⊢;intros;refine gr 40 42 ?_;refine sJ c121r5.eq_1 ?_;intros;refine gc ?_;refine sI ?_;refine gb (fun k4=>?_) (fun k4=>absurd (of_decide_eq_false k4) (by simpa using he));intros;refine gr 42 44 ?_;refine sJ c121r6.eq_1 ?_
  (intros;try refine du ?_)
  refine dx (dR none 5 1) ?_;refine dC (dG _ rfl (.cons_cons _ (List.nil_sublist _)) (dw dt) ?_);rw[DT hok he];exact⟨_,[],rfl,rfl,.nil⟩
 rw[we he]at hv3 ⊢;have hv3:SB G3 w (dH x):=hv3;have hbl:=(iP he).2;have hz:decide ((0:Int)≠0)=false:=by decide
 intros;refine gr 40 42 ?_;refine sJ2 c121r5.eq_1 @hz ?_;intros;refine gc ?_;refine sI ?_;intros;refine gN ?_
 (intros;try refine du ?_);refine o3 _ (List.Sublist.refl _) (by decide) ?_;refine sJ c121r7.eq_1 ?_
 refine(wv s _ G3 (SE.le hg03 hs0) (by omega) _ _).mono ?_;rintro _ _ ⟨rfl,rfl⟩;refine sI ?_;intros;refine gc ?_;refine sI ?_;refine gb (fun k5=>?_) (fun k5=>?_)
 ·have k5:=of_decide_eq_true k5;intros;refine gr 50 51 ?_;refine sJ c121r8.eq_1 ?_
  (intros;try refine du ?_)
  refine dx (dR none 5 1) ?_;refine dC (dG _ rfl (.cons_cons _ (List.nil_sublist _)) (dw dt) ?_);rw[Ec hok he k5];exact⟨_,[],rfl,rfl,.nil⟩
 have k5:=of_decide_eq_false k5;have hw:IntKind.i64.wrap ((s.bytes.length:Int)+((dH x).length:Int))=((s.bytes.length+(dH x).length:Nat):Int):=by rw[dU] <;> omega
 have hsb3:=hv3;obtain⟨A3,c3,rfl,-⟩:=hv3;intros;refine gr 53 60 ?_;refine sJ2 c121r9.eq_1 @hw ?_;intros;refine gc ?_;refine sI ?_;refine gb (fun k6=>?_) (fun k6=>?_)
 ·have k6:=of_decide_eq_true k6;intros;refine gr 60 61 ?_;refine sJ c121r10.eq_1 ?_
  (intros;try refine du ?_)
  refine dx (dR none 5 1) ?_;refine dC (dG _ rfl (.cons_cons _ (List.nil_sublist _)) (dw dt) ?_);rw[Aq hok he k5 k6];exact⟨_,[],rfl,rfl,.nil⟩
 have k6:=of_decide_eq_false k6;have h0:=ww hok he k5 k6;have hll:Cells (EBs G3) 1 [s.bytes,dH x] [.slice A s.bytes.length c,.slice A3 (dH x).length c3]:=.cons (cs:=[_]) ⟨_,rfl,SB.le hl hg03⟩ rfl (.one ⟨_,rfl,hsb3⟩ rfl);intros;refine gN ?_
 (intros;try refine du ?_);refine Dj _ (List.Sublist.refl _) (by decide) ?_;refine sJ c121r11.eq_1 ?_
 intro bk hbk;refine⟨dK (fun _ _ h=>h) (.cons _ (List.Sublist.refl _)),?_⟩;refine fo F157.enters (dQ [] _ (by decide) hll) ?_;rintro h' ⟨G5,rfl,hg5,hv5⟩;refine(qS (wF [s.bytes,dH x] _ G5 (hv5.le (.refl _) fun _ _ ⟨v,h1,h2⟩=>⟨v,h1,SB.le h2 hg5⟩) (by simp;omega)) _ _).mono ?_;rintro r h' ⟨G6,L',rfl,hg6,A6,c6,zc6,rfl,-,hzc6,rfl⟩;have hfl:[s.bytes,dH x].flatten=s.bytes++dH x:=by simp
 rw[hfl]at hzc6 ⊢;refine⟨dK (hg5.trans hg6) (.cons _ (List.Sublist.refl _)),?_⟩;refine sI ?_;refine sJ c121r12.eq_1 ?_
 (intros;try refine du ?_)
 refine dC (dG _ rfl (.cons_cons _ (List.nil_sublist _)) (dw dt) ?_);rw[h0];exact⟨_,zc6,rfl,rfl,hzc6⟩
theorem F123:Fun Tryz.prog 123 44 v123 c123 o123:=Fun.mkA Tryz.func123 Tryz.ntmps123
theorem F143:Fun Tryz.prog 143 19 v143 c143 o143:=Fun.mkA Tryz.func143 Tryz.ntmps143
theorem F190:Fun Tryz.prog 190 20 v190 c190 o190:=Fun.mkA Tryz.func190 Tryz.ntmps190
def FF(p:Sg × Int)(G:Nat→Option Obj)(r:Value):Prop:=∃ A c,r=.tuple #[.agg #[.int .i64 p.1.base,.slice A p.1.bytes.length c],.int .i64 p.2]∧SB G (.slice A p.1.bytes.length c) p.1.bytes
theorem yA{P:Program}{f:FuncId}{args:Array Value}{G:Nat→Option Obj}{p:Sg × Int}(hf:FnO P f args G [] (fun _ L' r=>tG p L' r)):
  FnO P f args G [] (fun _ L' r=>∃ A c zc,r=.tuple #[.agg #[.int .i64 p.1.base,.slice A p.1.bytes.length c],.int .i64 p.2]∧(p.1.bytes.length≤c∧c≤maxLen)∧L'=[.row (.slice A p.1.bytes.length c) 5 1 p.1.bytes.length zc]∧Cells UE 1 p.1.bytes zc):=fun L D =>
 (hf L D).gx fun v h' ⟨G',L',he,hg,u,zc,h1,h2,h3⟩=>by
  subst he h2;refine(gK (.head _)).mono fun h' ⟨e1,A,c,e2,e3,e4⟩=>?_
  subst e2;exact⟨G',_,e1,hg,A,c,zc,h1,⟨e3,e4⟩,rfl,h3⟩
theorem mO{P:Program}{f:FuncId}{args:Array Value}{G:Nat→Option Obj}{p:Sg × Int}(hf:FnO P f args G [] (fun _ L' r=>tG p L' r)):FnD P f args G (FF p) :=
 FnO.fnD (L1:=[]) (yA hf) fun G' L' v ⟨A,c,zc,h1,_,h2,h3⟩ _ L D=>by
  subst h2;exact(kn (by decide) h3).mono fun h' ⟨G2,e1,e2,e3⟩=>⟨G2,e1,e2,A,c,h1,e3⟩
theorem oD{P:Program}{f:FuncId}{args:Array Value}{G:Nat→Option Obj}{s:Sg}(hf:FnO P f args G [] (fun _ L' r=>uV s L' r)):
  FnO P f args G [] (fun _ L' r=>∃ A c zc,r=.agg #[.int .i64 s.base,.slice A s.bytes.length c]∧(s.bytes.length≤c∧c≤maxLen)∧L'=[.row (.slice A s.bytes.length c) 5 1 s.bytes.length zc]∧Cells UE 1 s.bytes zc):=fun L D =>
 (hf L D).gx fun v h' ⟨G',L',he,hg,u,zc,h1,h2,h3⟩=>by
  subst he h2;refine(gK (.head _)).mono fun h' ⟨e1,A,c,e2,e3,e4⟩=>?_
  subst e2;exact⟨G',_,e1,hg,A,c,zc,h1,⟨e3,e4⟩,rfl,h3⟩
def ofL(limit:Int):Sg→List Batch→Sg × Int
 | s,[]=>(s,0)
 | s,b :: bs=>if (jn s b limit).2=0 then ofL limit (jn s b limit).1 bs else(iU,(jn s b limit).2)
def ofS(base:Int)(l:List Batch)(limit:Int):Sg × Int:=if (uf base).2=0∧ng limit=true then ofL limit (uf base).1 l else(iU,1)
theorem uo{s:Sg}{x:Batch}{limit:Int}(h:(jn s x limit).2=0):(fT s=s.bytes.length∧inO s.base=true∧ng limit=true)∧fp x=0∧jL s≤x.base∧((s.bytes.length+(dH x).length:Nat):Int)≤limit∧jn s x limit=(⟨s.base,s.bytes++dH x⟩,0):=by
 unfold jn at h ⊢;split at h <;> rename_i h1
 ·split at h <;> rename_i h2
  ·split at h <;> rename_i h3
   ·cases h
   ·split at h <;> rename_i h4
    ·cases h
    ·exact⟨h1,h2,by omega,by omega,by rw[if_pos h1,if_pos h2,if_neg h3,if_neg h4]⟩
  ·exact absurd h h2
 ·cases h
theorem u4{s:Sg}{x:Batch}{limit:Int}(h:¬ (jn s x limit).2=0):(jn s x limit).1=iU:=by
 unfold jn at h ⊢;split at h <;> rename_i h1
 ·split at h <;> rename_i h2
  ·split at h <;> rename_i h3
   ·rw[if_pos h1,if_pos h2,if_pos h3]
   ·split at h <;> rename_i h4
    ·rw[if_pos h1,if_pos h2,if_neg h3,if_pos h4]
    ·exact absurd rfl h
  ·rw[if_pos h1,if_neg h2]
 ·rw[if_neg h1]
theorem sr{n:Int}:ng n=true↔1≤n∧n≤4096:=by simp[ng]
theorem pd{p:Int}{G:Nat→Option Obj}:FF (iU,p) G (.tuple #[.agg #[.int .i64 0,.slice none 0 0],.int .i64 p]):=⟨none,0,rfl,SB.nil⟩
theorem GR(base limit:Int)(l:List Batch)(v:Value)(G:Nat→Option Obj)(hl:SlV G (BE G) 10 v l)(hbi:I64 base)(hli:I64 limit):FnD Tryz.prog 123 #[.int .i64 base,v,.int .i64 limit] G (FF (ofS base l limit)):=by
 obtain⟨A,c,rfl,hc,hm,hA⟩:=hl;refine F123.fnD (by simp) (dF ?_);unfold c123;intros;refine gr 0 0 ?_;refine sJ c123r0.eq_1 ?_;intros;refine gr 12 17 ?_;refine sJ c123r1.eq_1 ?_;refine(mO (E8 base G) _ _).mono ?_;rintro r h' ⟨G1,rfl,hg1,A1,c1,rfl,hs1⟩;refine sI ?_
 have hbad:∀ (fr:List Td) (e:Env) (X:List Kx.Item),¬ ((uf base).2=0∧ng limit=true)→go none Tryz.prog 44 v123.1 v123.2 (fW o123 fun v h=>FF (ofS base l limit) h.G v) (Td.s ((SC.reg false c123r3).seq .ret) :: fr) e ⟨G1,[.reg 8 [.int .i64 (uf base).1.base,.slice A1 (uf base).1.bytes.length c1],.reg 6 [.int .i64 0,.slice none 0 0]],[]⟩:=fun fr e X hn=>by
  intros;refine gr 24 25 ?_;refine sJ c123r3.eq_1 ?_;intros;refine rV ?_;simp only[push_cast,Nat.reduceBEq];rw[ofS,if_neg hn];exact pd
 intros;refine gr 17 23 ?_;refine sJ c123r2.eq_1 ?_;refine gd (fun k1=>?_) (fun k1=>?_)
 ·refine sI ?_;intros;refine gc ?_;refine sI ?_;exact hbad _ _ [] fun h=>of_decide_eq_true k1 h.1
 have k1:(uf base).2=0:=by simpa using k1
 refine sI ?_;refine(ny _ _ _ _).mono ?_;rintro _ _ ⟨rfl,rfl⟩;refine sI ?_;intros;refine gc ?_;refine sI ?_;refine gb (fun k2=>?_) (fun k2=>?_)
 ·exact hbad _ _ [] fun h=>by rw[h.2]at k2;cases k2
 have k2:ng limit=true:=by simpa using k2
 clear hbad;have hlim:=sr.1 k2;have hnew:uf base=(⟨base,[]⟩,0):=by
  unfold uf at k1 ⊢;split at k1
  ·rename_i h;rw[if_pos h]
  ·cases k1
 have hof:ofS base l limit=ofL limit ⟨base,[]⟩ l:=by rw[ofS,if_pos ⟨k1,k2⟩,hnew]
 rw[hnew]at hs1 ⊢;rw[hof];clear hof hnew k1;dsimp only at hs1 ⊢;intros;refine gN ?_;intros;refine gr 0 0 ?_;refine sJ c123r4.eq_1 ?_;intros
 refine eA (fun e h=>∃ (s:Sg) (G':Nat→Option Obj) (A':Option Addr) (c':Nat),(Gle G1 G'∧SB G' (.slice A' s.bytes.length c') s.bytes∧ofL limit ⟨base,[]⟩ l=(s,0))∧h=⟨G',[.reg 8 [.int .i64 s.base,.slice A' s.bytes.length c'],.reg 6 [.int .i64 0,.slice none 0 0]],[]⟩) ?_ ?_
 ·(intros;try refine du ?_)
  refine dW (fun e h=>∃ (k:Nat) (s:Sg) (G':Nat→Option Obj) (A':Option Addr) (c':Nat),(k≤l.length∧Gle G1 G'∧SB G' (.slice A' s.bytes.length c') s.bytes∧s.base=base∧s.bytes.length≤4096∧ofL limit ⟨base,[]⟩ l=ofL limit s (l.drop k))∧e 27=.int .i64 k∧e 26=.int .i64 l.length∧e 25=.slice A l.length c∧e 2=.int .i64 limit∧h=⟨G',[.reg 8 [.int .i64 s.base,.slice A' s.bytes.length c'],.reg 6 [.int .i64 0,.slice none 0 0]],[]⟩) (fun e h=>l.length - iv (e 27)) ?_ ?_
  ·exact⟨0,⟨base,[]⟩,G1,A1,c1,⟨Nat.zero_le _,.refl _,hs1,rfl,by simp,rfl⟩,eE,eE,eE,eE,rfl⟩
  rintro e h ⟨k,s,G2,A2,c2,⟨hk,hg2,hs2,hsb,hsl,hof⟩,e27,e26,e25,e2,rfl⟩;refine dz [2,25,26,27] ?_;refine sJ4 @e2 @e25 @e26 @e27 ?_;intros;refine gr 0 0 ?_;refine sJ c123r5.eq_1 ?_;intros;refine gc ?_;refine sI ?_;refine gb (fun ht=>?_) (fun ht=>?_)
  ·have ht:k < l.length:=by have:=of_decide_eq_true ht;omega
   have hw:=fz k c (by omega) hm;have hg02:=hg1.trans hg2;obtain⟨x,hx⟩:∃ x,l[k]?=some x:=⟨l[k],List.getElem?_eq_getElem (by omega)⟩;have hA2:=hA.le hg02 (E':=BE G) fun _ _ h=>h
   have hof2:ofL limit s (l.drop k)=if (jn s x limit).2=0 then ofL limit (jn s x limit).1 (l.drop (k+1))else(iU,(jn s x limit).2):=by
    obtain⟨h1,h2⟩:=List.getElem?_eq_some_iff.1 hx;rw[List.drop_eq_getElem_cons h1,h2,ofL]
   rw[hof2]at hof;intros;refine gN ?_;intros;refine gr 29 31 ?_;refine sJ c123r6.eq_1 ?_;refine hA2.x_ld hx rfl rfl ?_;rintro a1 ha1 cs hbe;have hbe:=BE.le hg02 hbe;have happ:=pZ s x limit _ cs G2 ⟨A2,c2,rfl,hs2,by rw[hsb];exact hbi⟩ (by omega) hbe hli;obtain⟨B,d,rfl,-⟩:=hbe;unfold eS iB at happ;unfold eS;refine sI ?_;intros;refine gr 31 38 ?_;refine sJ c123r7.eq_1 ?_;refine(mO happ _ _).mono ?_
   rintro r h' ⟨G3,rfl,hg3,A3,c3,rfl,hs3⟩;have hok:=@uo s x limit;have hno:=@u4 s x limit;generalize jn s x limit=q at hok hno hs3 hof;obtain⟨s3,er⟩:=q;dsimp only at hok hno hs3 hof;refine sI ?_;intros;refine gr 38 39 ?_;refine sJ c123r8.eq_1 ?_;intros;refine gc ?_;refine sI ?_;refine gb (fun k3=>?_) (fun k3=>?_)
   ·have k3:=of_decide_eq_true k3;intros;refine gr 40 42 ?_;refine sJ c123r9.eq_1 ?_;intros;refine rV ?_;simp only[push_cast,Nat.reduceBEq];rw[hof,if_neg k3];exact pd
   ·have k3:er=0:=by simpa using k3
    subst k3;obtain⟨-,-,-,h4,h5⟩:=hok rfl;have h5:s3=⟨s.base,s.bytes++dH x⟩:=congrArg Prod.fst h5;rw[if_pos rfl]at hof;have hl3:s3.bytes.length≤4096:=by rw[h5];simp only[List.length_append];omega
    have hb3:s3.base=base:=by rw[h5];exact hsb
    intros;refine gN ?_;refine dx (dD (L':=[.reg 8 [.int .i64 s3.base,.slice A3 s3.bytes.length c3],.reg 6 [.int .i64 0,.slice none 0 0]]) (.cons _ (List.Sublist.refl _))) ?_;intros;refine gr 42 43 ?_;refine sJ2 c123r10.eq_1 @hw ?_
    (intros;try refine du ?_)
    refine eh ⟨⟨k+1,s3,G3,A3,c3,⟨by omega,hg2.trans hg3,hs3,hb3,hl3,hof⟩,eE,eE,eE,eE,rfl⟩,?_⟩;refine sI ?_;omega
  ·have ht:k=l.length:=by have:=of_decide_eq_false ht;omega
   subst ht;rw[List.drop_length,ofL]at hof;refine dT ?_;refine sI ?_;intros;refine gN ?_;exact eh ⟨s,G2,A2,c2,⟨hg2,hs2,hof⟩,rfl⟩
 rintro e h ⟨s,G2,A2,c2,⟨hg2,hs2,hof⟩,rfl⟩;intros;intros;refine gr 43 44 ?_;refine sJ c123r11.eq_1 ?_;intros;refine rV ?_;simp only[push_cast,Nat.reduceBEq];rw[hof];exact⟨A2,c2,rfl,hs2⟩
def lj(s:Sg):Sg × Int:=(⟨s.base,s.bytes.take (fT s)⟩,(s.bytes.length:Int) - (fT s:Int))
theorem Ds(s:Sg)(cs:List Value)(G:Nat→Option Obj)(hs:SE G s cs)(hb:s.bytes.length≤1000000):FnO Tryz.prog 143 #[.agg cs.toArray] G [] (fun _ L' r=>tG (lj s) L' r):=by
 have hscan:=nO s cs G hs hb;have hs0:=hs;obtain⟨A,c,rfl,hl,hib⟩:=hs;have hgl:=mg s;refine F143.fnO (by simp) dt (dF ?_);unfold c143;unfold iB at hscan hs0 ⊢;have hw:IntKind.i64.wrap ((s.bytes.length:Int) - (fT s:Int))=(s.bytes.length:Int) - (fT s:Int):=by rw[dU] <;> omega
 intros;refine gr 0 0 ?_;refine sJ c143r0.eq_1 ?_;intros;refine gr 6 11 ?_;refine sJ c143r1.eq_1 ?_;refine(hscan _ _).mono ?_;rintro r h' ⟨G1,L',rfl,hg1,u,zc,rfl,-,rfl⟩;refine sI ?_;intros;refine dx (dD (.cons _ (List.Sublist.refl _))) ?_
 (intros;try refine du ?_);refine qm _ (.cons _ (List.Sublist.refl _)) (by decide) ?_;refine sJ2 c143r2.eq_1 @hw ?_
 refine(oD (sH s (fT s) _ G1 (SE.le hg1 hs0) hb hgl) _ _).mono ?_;rintro r h' ⟨G2,L',rfl,hg2,A2,c2,zc2,rfl,-,rfl,hzc2⟩;refine⟨dK hg2 (.cons _ (.cons _ (List.Sublist.refl _))),?_⟩;refine sI ?_;refine⟨dK hg2 (.cons _ (.cons _ (List.Sublist.refl _))),?_⟩;refine sI ?_
 (intros;try refine du ?_)
 refine dC (dG _ rfl (.cons_cons _ (List.nil_sublist _)) (dw dt) ?_);exact⟨_,zc2,rfl,rfl,hzc2⟩
def Aj(off:Int)(b:Batch):Bool:=decide (b.last < off)
def tR(s:Sg)(off:Int):Sg:=⟨s.base,s.bytes.take (fh ((em s).takeWhile (Aj off))).length⟩
theorem EI{α:Type}{p:α→Bool}:∀ {l:List α} {k:Nat} {x:α},(∀ y∈l.take k,p y=true)→l[k]?=some x→p x=false→l.takeWhile p=l.take k
 | [],_,_,_,h,_=>by simp at h
 | y :: l,0,x,_,h,hp=>by
  simp at h;subst h;rw[List.takeWhile_cons,if_neg (by rw[hp];simp)];rfl
 | y :: l,k+1,x,ha,h,hp=>by
  rw[List.takeWhile_cons,if_pos (ha y (by simp)),List.take_succ_cons,EI (k:=k) (fun z hz=>ha z (by rw[List.take_succ_cons];exact .tail _ hz)) (by simpa using h) hp]
theorem Az{α:Type}{p:α→Bool}:∀ {l:List α},(∀ y∈l,p y=true)→l.takeWhile p=l
 | [],_=>rfl
 | y :: l,h=>by rw[List.takeWhile_cons,if_pos (h y (.head _)),Az fun z hz=>h z (.tail _ hz)]
theorem Fu(s:Sg)(off:Int)(cs:List Value)(G:Nat→Option Obj)(hs:SE G s cs)(hb:s.bytes.length≤1000000)(ho:I64 off):FnO Tryz.prog 190 #[.agg cs.toArray,.int .i64 off] G [] (fun _ L' r=>uV (tR s off) L' r):=by
 have hs0:=hs;obtain⟨A,c,rfl,hl,hi⟩:=hs;refine F190.fnO (by simp) dt (dF ?_);unfold c190;unfold iB at hs0 ⊢;intros;refine gr 0 0 ?_;refine sJ c190r0.eq_1 ?_;intro b2 hb2 b3 hb3 b4 hb4
 (intros;try refine du ?_)
 refine ed (ec [_,_] _) ?_;rintro h' ⟨G1,rfl,hg1,f2⟩;refine ed (ec [_] _) ?_;rintro h' ⟨G2,rfl,hg2,f3⟩;have f2:=fun j u hu=>dJ hg2 (f2 j u hu)
 have e3:=f3 0 _ rfl;rw[es]at e3;have hg02:=hg1.trans hg2;intros;refine gr 0 0 ?_;refine sJ c190r1.eq_1 ?_;intro b5 hb5;refine dI [] [_] rfl (by simp) ⟨rfl,rfl⟩ ?_;refine sI ?_;intros;refine gr 8 9 ?_;refine sJ c190r2.eq_1 ?_;refine⟨_,⟨_,[.int .i64 s.base,.slice A s.bytes.length c],rfl,rfl,rfl,fun j u hu=>.g (f2 j u hu)⟩,?_⟩;refine sI ?_;refine(rG s _ G2 (SE.le hg02 hs0) hb _ _).mono ?_
 rintro r h' ⟨G3,rfl,hg3,b,rfl,hit⟩;obtain⟨rr,hsc⟩:=eX s;have hcut:tR s off=⟨s.base,s.bytes.take (fh ((em s).takeWhile (Aj off))).length⟩:=rfl;generalize em s=bs at hit hsc hcut;have hlen:=hsc.len
 have hrest:∀ (fr:List Td) (e:Env) (G':Nat→Option Obj) (D:List Nat) (k:Nat),Gle G3 G'→bs.takeWhile (Aj off)=bs.take k→e 2=.pointer (some ⟨b2,0,none⟩)→e 5=.pointer (some ⟨b5,0,none⟩)→e 4=.pointer (some ⟨b4,0,none⟩) →
   go none Tryz.prog 20 v190.1 v190.2 (fW o190 fun v h=>uV (tR s off) h.L v) (Td.s ((SC.reg false c190r7).seq .ret) :: fr) e ⟨G',[.blk b5 [.int .i64 (((fh (bs.take k)).length:Nat):Int)],.blk b4 [.int .i64 0,.slice none 0 0]],D⟩:=fun fr e G' D k hg htw e2 e5 e4=>by
  have hle:=iG bs k;refine dz [2,4,5] ?_;refine sJ3 @e2 @e4 @e5 ?_;intros;refine gr 17 20 ?_;refine sJ c190r7.eq_1 ?_;refine⟨_,⟨_,[.int .i64 s.base,.slice A s.bytes.length c],rfl,rfl,rfl,fun j u hu=>.g (dJ (hg3.trans hg) (f2 j u hu))⟩,?_⟩;refine sI ?_;refine⟨_,dE (.head _) rfl,?_⟩;refine sI ?_
  refine(oD (sH s (fh (bs.take k)).length _ G' (SE.le (hg02.trans (hg3.trans hg)) hs0) hb (by omega)) _ _).mono ?_;rintro r h' ⟨G4,L',rfl,hg4,A4,c4,zc4,rfl,-,rfl,hzc4⟩;refine sI ?_;refine dI [_,_] [] rfl (by simp) ⟨rfl,rfl⟩ ?_;refine sI ?_
  (intros;try refine du ?_)
  refine ed (Fz (.cons _ (List.Sublist.refl _))) ?_;rintro h' ⟨rfl,hne⟩;refine dC (dG (out:=[.agg #[.int .i64 s.base,.slice A4 (s.bytes.take (fh (bs.take k)).length).length c4]]) _ ?_ (.cons_cons _ (List.nil_sublist _)) (dw dt) ?_)
  ·simp[o190,l6,Kx.getB,ud,ldC,Env.set,hne]
   trace_state
  rw[hcut,htw];exact⟨_,zc4,rfl,rfl,hzc4⟩
 refine sI ?_
 (intros;try refine du ?_)
 refine qA (α:=Nat) (fun k G' L'=>L'=[.blk b5 [.int .i64 (((fh (bs.take k)).length:Nat):Int)],.blk b4 [.int .i64 0,.slice none 0 0]]∧∀ y∈bs.take k,Aj off y=true)
  (fun ex k G' L'=>ex=.exit 0∧L'=[.blk b5 [.int .i64 (((fh (bs.take k)).length:Nat):Int)],.blk b4 [.int .i64 0,.slice none 0 0]]∧bs.takeWhile (Aj off)=bs.take k) (eE) F177.enters (dA (dA dt))
  (fun i G G' L hg h=>h) hit (fun G x args h=>by obtain⟨y,_,_,_,rfl⟩:=h;rfl) ⟨rfl,by simp⟩ ?_ ?_ ?_
 ·rintro yl k i args G' L' hki hgl ⟨x,cs,hx,hbe,rfl⟩ ⟨rfl,hall⟩ _;obtain⟨rfl,hkl⟩:=oJ hki;obtain⟨B,d,rfl,-⟩:=hbe;have e3':=dJ (hg3.trans hgl) e3;unfold eS;refine sI ?_;intros;refine gr 0 0 ?_;refine sJ c190r3.eq_1 ?_;intros;refine gr 0 0 ?_;refine sJ c190r4.eq_1 ?_;intro bb;refine fN (rc ?_);intros;refine gr 13 15 ?_;refine sJ c190r5.eq_1 ?_;refine⟨_,⟨_,rfl,.g e3'⟩,?_⟩;refine sI ?_
  intros;refine gc ?_;refine sI ?_;refine gb (fun h1=>?_) (fun h1=>?_)
  ·have h1:=of_decide_eq_true h1;refine dT ?_;refine sI ?_;exact GO _ (.cons _ (List.Sublist.refl _)) (dA (dA dt)) ⟨rfl,rfl,EI hall hx (decide_eq_false (by omega))⟩
  ·have h1:=of_decide_eq_false h1;have hcp:Aj off x=true:=decide_eq_true (by omega);intros;refine gN ?_;intros;refine gr 16 17 ?_;refine sJ c190r6.eq_1 ?_;refine dI [_] [_] rfl (by simp) ⟨rfl,rfl⟩ ?_;refine sI ?_
   (intros;try refine du ?_)
   refine fN (pR _ (.cons _ (List.Sublist.refl _)) (dA (dA dt)) ⟨rfl,fun y hy=>?_⟩);rw[List.take_add_one,hx]at hy;rcases List.mem_append.1 hy with h | h
   ·exact hall y h
   ·simp at h;subst h;exact hcp
 ·rintro G' L' dd hgl ⟨rfl,hall⟩ _;rw[List.length_range]at hall ⊢;refine jS ?_;refine hrest _ _ _ _ _ hgl ?_ ?_ ?_ ?_
  ·rw[List.take_length]at hall ⊢;exact Az hall
  ·(refine sI ?_;try with_reducible exact True.intro)
  ·(refine sI ?_;try with_reducible exact True.intro)
  ·(refine sI ?_;try with_reducible exact True.intro)
 ·rintro ex k G' L' d _ hgl ⟨rfl,rfl,htw⟩ _;refine sI ?_;refine hrest _ _ _ _ _ hgl htw ?_ ?_ ?_
  ·(refine sI ?_;try with_reducible exact True.intro)
  ·(refine sI ?_;try with_reducible exact True.intro)
  ·(refine sI ?_;try with_reducible exact True.intro)
theorem oW{nx:Int}:¬ oU [] nx:=fun h=>by
 obtain⟨x,s,-,e,-⟩:=oh h;have:=gD x;have h2:=congrArg List.length e;simp at h2;omega
theorem Scans.join{nx:Int}{r r':List UInt8}{bs ms:List Batch}(hok:∀ x∈bs,fp x=0)(ho:uh nx bs)(h:Scans (fI nx bs) r ms r'):Scans nx (fh bs++r) (bs++ms) r' :=
 ⟨by rw[kU,List.append_assoc,← h.eq],fun x hx=>(List.mem_append.1 hx).elim (hok x) (h.ok x),(oB _ _ _).2 ⟨ho,h.ord⟩,by rw[kT];exact h.stop⟩
theorem uJ{nx:Int}{bs:List Batch}(h:uh nx bs)(k:Nat):uh nx (bs.take k):=by
 rw[← List.take_append_drop k bs,oB]at h;exact h.1
theorem Scans.pre{nx:Int}{q r:List UInt8}{bs:List Batch}(h:Scans nx q bs r)(k:Nat):Scans nx (fh (bs.take k)) (bs.take k) [] :=
 ⟨(List.append_nil _).symm,fun x hx=>h.ok x (List.mem_of_mem_take hx),uJ h.ord k,oW⟩
theorem sE{nx:Int}{q r:List UInt8}{bs:List Batch}(h:Scans nx q bs r)(k:Nat):q.take (fh (bs.take k)).length=fh (bs.take k):=by
 have e:q=fh (bs.take k)++(fh (bs.drop k)++r):=by
  rw[← List.append_assoc,← kU,List.take_append_drop];exact h.eq
 rw[e,List.take_left]
theorem o9{s:Sg}{bs:List Batch}{r:List UInt8}(h:Scans s.base s.bytes bs r)(k:Nat):em ⟨s.base,s.bytes.take (fh (bs.take k)).length⟩=bs.take k :=
 Scans.is (r:=[]) (s:=⟨s.base,s.bytes.take (fh (bs.take k)).length⟩) (by show Scans s.base _ _ _;rw[sE h k];exact h.pre k)
theorem vI{s:Sg}{x:Batch}(hg:fT s=s.bytes.length)(h0:fp x=0)(ho:jL s≤x.base):Scans s.base (s.bytes++dH x) (em s++[x]) []:=by
 obtain⟨r,h⟩:=eX s;have hr:s.bytes=fh (em s):=by
  have e:=h.eq;have hl:=congrArg List.length e;rw[List.length_append]at hl;have:r=[]:=List.eq_nil_of_length_eq_zero (by unfold fT at hg;omega);rw[this,List.append_nil]at e;exact e
 have:=Scans.join (ms:=[x]) (r:=dH x) (r':=[]) h.ok h.ord ⟨by simp[fh],fun y hy=>by simp at hy;subst hy;exact h0,⟨ho,trivial⟩,oW⟩;rw[← hr]at this;exact this
theorem qB{α:Type}(a b:List α)(c:Nat)(h:a.length≤c):(a++b).take c=a++b.take (c - a.length):=by
 rw[List.take_append,List.take_of_length_le h]
theorem pT:∀ (bs:List Batch) {nx:Int} {q r:List UInt8} {c:Nat},Scans nx q bs r→c≤q.length→∃ (k:Nat) (r':List UInt8),k≤bs.length∧Scans nx (q.take c) (bs.take k) r'∧((fh bs).length≤c→k=bs.length)
 | [],nx,q,r,c,h,hc=>by
  have hq:q=r:=h.eq;subst hq;refine⟨0,q.take c,Nat.le_refl _,⟨rfl,fun x hx=>(by cases hx),trivial,fun hm=>h.stop ?_⟩,fun _=>rfl⟩;obtain⟨x,s,-,e,h0,hn⟩:=oh hm;have e2:q=dH x++(s++q.drop c):=by rw[← List.append_assoc,← e,List.take_append_drop]
  exact(qV h0 e2).2 hn
 | x :: bs,nx,q,r,c,h,hc=>by
  have e1:q=dH x++(fh bs++r):=by rw[h.eq,fg,List.append_assoc]
  have h0:=h.ok x (.head _);by_cases hl:(dH x).length≤c
  ·obtain⟨k,r',hk,hs,ha⟩:=pT bs (nx:=x.last+1) (q:=fh bs++r) (r:=r) (c:=c - (dH x).length) ⟨rfl,fun z hz=>h.ok z (.tail _ hz),h.ord.2,h.stop⟩ (by rw[e1,List.length_append]at hc;omega);refine⟨k+1,r',by simp;omega,⟨?_,fun z hz=>?_,⟨h.ord.1,hs.ord⟩,hs.stop⟩,fun hh=>?_⟩
   ·rw[e1,qB _ _ _ hl,List.take_succ_cons,fg,List.append_assoc,← hs.eq]
   ·rw[List.take_succ_cons]at hz;rcases List.mem_cons.1 hz with rfl | hz
    ·exact h0
    ·exact hs.ok z hz
   ·rw[fg,List.length_append]at hh;rw[ha (by omega)];rfl
  ·refine⟨0,q.take c,Nat.zero_le _,⟨rfl,fun x hx=>(by cases hx),trivial,fun hm=>?_⟩,fun hh=>?_⟩
   ·have hd:(q.take c).drop 0=(dH x).take c:=by rw[List.drop_zero,e1,List.take_append_of_le_length (by omega)]
    have hg:=tt (a:=0) h0 (by omega) hd;have:=hm.1;rw[show((0:Int))=((0:Nat):Int)from rfl,hg]at this;cases this
   ·rw[fg,List.length_append]at hh;omega
theorem kb:∀ {nx:Int} {bs:List Batch},uh nx bs→(∀ x∈bs,fp x=0)→∀ k,fI nx (bs.take k)≤fI nx bs
 | nx,[],_,_,k=>by simp[fI]
 | nx,x :: bs,ho,hok,0=>by
  have h1:=kb ho.2 (fun z hz=>hok z (.tail _ hz)) 0;have h2:x.base≤x.last:=(iP (hok x (.head _))).1.2.2.1.1;have h3:=ho.1;simp only[List.take_zero,fI]at h1 ⊢;omega
 | nx,x :: bs,ho,hok,k+1=>kb ho.2 (fun z hz=>hok z (.tail _ hz)) k
theorem vE:∀ {nx:Int} {bs:List Batch},uh nx bs→(∀ x∈bs,fp x=0)→nx≤fI nx bs
 | nx,[],_,_=>Int.le_refl _
 | nx,x :: bs,ho,hok=>by
  have h1:=vE ho.2 (fun z hz=>hok z (.tail _ hz));have h2:x.base≤x.last:=(iP (hok x (.head _))).1.2.2.1.1;have h3:=ho.1;simp only[fI];omega
def fe(s:Sg):Bool:=inO s.base && decide (fT s=s.bytes.length)
structure Lg where
 limit:Int
 start:Int
 segs:List Sg
deriving DecidableEq
def gG:Lg:=⟨0,0,[]⟩
def mr(limit start:Int):Bool:=decide (256≤limit) && decide (limit≤4096) && inO start
def sv(a b:Sg):Bool:=decide (a.base < b.base) && decide (jL a≤b.base)
def AX(limit:Int)(p:Option Sg)(s:Sg):Prop:=(fe s=true∧(s.bytes.length:Int)≤limit)∧∀ a,p=some a→sv a s=true
instance (limit:Int) (s:Sg):∀ p,Decidable (AX limit p s)
 | none=>if h:fe s=true∧(s.bytes.length:Int)≤limit then .isTrue ⟨h,fun a h=>by cases h⟩else .isFalse fun hh=>h hh.1
 | some a=>if h:(fe s=true∧(s.bytes.length:Int)≤limit)∧sv a s=true then .isTrue ⟨h.1,fun b hb=>by cases hb;exact h.2⟩else .isFalse fun hh=>h ⟨hh.1,hh.2 a rfl⟩
def okS(limit:Int):Option Sg→List Sg→Prop
 | _,[]=>True
 | p,s :: ss=>AX limit p s∧okS limit (some s) ss
instance (limit:Int):∀ p l,Decidable (okS limit p l)
 | _,[]=>.isTrue trivial
 | p,s :: ss=>@instDecidableAnd _ _ (inferInstance) (instDecidableOkS limit (some s) ss)
where instDecidableOkS (limit:Int):∀ p l,Decidable (okS limit p l)
 | _,[]=>.isTrue trivial
 | p,s :: ss=>@instDecidableAnd _ _ (inferInstance) (instDecidableOkS limit (some s) ss)
def ko:Option Sg→List Sg→Option Sg
 | p,[]=>p
 | _,s :: ss=>ko (some s) ss
theorem yC(p:Option Sg)(a b:List Sg):ko p (a++b)=ko (ko p a) b:=by
 induction a generalizing p with
 | nil=>rfl
 | cons x a ih=>exact ih _
theorem jX(limit:Int)(p:Option Sg)(a b:List Sg):okS limit p (a++b)↔okS limit p a∧okS limit (ko p a) b:=by
 induction a generalizing p with
 | nil=>simp[okS,ko]
 | cons x a ih=>simp only[List.cons_append,okS,ko,ih,and_assoc]
theorem mN(p:Option Sg)(a:List Sg)(s:Sg):ko p (a++[s])=some s:=by rw[yC];rfl
theorem ew{α:Type}{l:List α}{k:Nat}{x:α}(h:l[k]?=some x):l.take (k+1)=l.take k++[x]:=by rw[List.take_add_one,h];rfl
theorem pB{l:List Sg}{k:Nat}{s:Sg}(p:Option Sg)(h:l[k]?=some s):ko p (l.take (k+1))=some s:=by rw[ew h,mN]
theorem sU{limit:Int}{l:List Sg}{k:Nat}{s:Sg}(h:l[k]?=some s):okS limit none (l.take (k+1))↔okS limit none (l.take k)∧AX limit (ko none (l.take k)) s:=by
 rw[ew h,jX];simp[okS]
theorem CK{limit:Int}{p:Option Sg}{l:List Sg}(h:okS limit p l)(k:Nat):okS limit p (l.take k):=by
 rw[← List.take_append_drop k l,jX]at h;exact h.1
theorem vS{limit:Int}{l:List Sg}:∀ {p:Option Sg},okS limit p l→∀ s∈l,fe s=true∧(s.bytes.length:Int)≤limit:=by
 induction l with
 | nil=>intro p _ s h;cases h
 | cons x l ih =>
  intro p h s hs;rcases List.mem_cons.1 hs with rfl | hs
  ·exact h.1.1
  ·exact ih h.2 s hs
theorem p5{l:List Sg}{s:Sg}(p:Option Sg)(h:l[l.length - 1]?=some s):ko p l=some s:=by
 have h0:=(List.getElem?_eq_some_iff.1 h).1;have:=pB p h
 rwa [Nat.sub_add_cancel (by omega),List.take_length]at this
def fj(l:Lg):Int:=if mr l.limit l.start=true∧l.segs≠[]∧okS l.limit none l.segs then(if 256 < l.segs.length then 2 else 0)else 1
theorem gY{l:Lg}(h:fj l=0):mr l.limit l.start=true∧l.segs≠[]∧okS l.limit none l.segs∧l.segs.length≤256:=by
 unfold fj at h;split at h
 ·rename_i h1;split at h
  ·cases h
  ·exact⟨h1.1,h1.2.1,h1.2.2,by omega⟩
 ·cases h
theorem lp{l:Lg}(h1:mr l.limit l.start=true)(h2:l.segs≠[])(h3:okS l.limit none l.segs)(h4:l.segs.length≤256):fj l=0:=by
 rw[fj,if_pos ⟨h1,h2,h3⟩,if_neg (by omega)]
theorem hX{a b:Int}:mr a b=true↔(256≤a∧a≤4096)∧inO b=true:=by simp[mr]
def FG(n:Int):Option Sg→Int
 | none=>n
 | some s=>max n (jL s)
def rK(l:Lg):Int:=FG l.start (ko none l.segs)
def eD(l:Lg):Int:=if fj l=0 then rK l else 0
theorem eI{s:Sg}:fe s=true↔fT s=s.bytes.length∧inO s.base=true:=by
 simp[fe,and_comm]
theorem Scans.ge{nx:Int}{q r:List UInt8}{bs:List Batch}(h:Scans nx q bs r):nx≤fI nx bs:=by
 have:=kb h.ord h.ok 0;simpa [fI]using this
theorem xE(s:Sg):s.base≤jL s:=by
 obtain⟨r,h⟩:=eX s;exact h.ge
theorem ju{a b:Sg}:sv a b=true↔a.base < b.base∧jL a≤b.base:=by simp[sv]
def bsS(l:List Sg):List Batch:=l.flatMap em
theorem m1:bsS []=[]:=rfl
theorem iJ(s:Sg)(l:List Sg):bsS (s :: l)=em s++bsS l:=rfl
theorem kx(a b:List Sg):bsS (a++b)=bsS a++bsS b:=by simp[bsS]
def fB(off:Int)(l:List Batch):List Batch:=l.filter fun b=>decide (off≤b.last)
theorem im(off:Int)(a b:List Batch):fB off (a++b)=fB off a++fB off b:=by simp[fB]
def xF(l:Lg):List Batch:=fB l.start (bsS l.segs)
def iC(l:Lg):List Batch:=if fj l=0 then xF l else[]
def vA(limit start:Int):Lg × Int:=if mr limit start=true then(⟨limit,start,[⟨start,[]⟩]⟩,0)else(gG,1)
def xm(l:Lg):Sg:=(ko none l.segs).getD iU
def gR(l:Lg)(b:Batch):Lg × Int :=
 if fj l=0 then
  if fp b=0 then
   if b.base < rK l then(gG,71)
   else if l.limit < ((dH b).length:Int)then(gG,70)
   else if (jn (xm l) b l.limit).2=0 then(⟨l.limit,l.start,l.segs.take (l.segs.length - 1)++[(jn (xm l) b l.limit).1]⟩,0)
   else if l.segs.length=256 then(gG,2)
   else(⟨l.limit,l.start,l.segs++[⟨b.base,dH b⟩]⟩,0)
  else(gG,fp b)
 else(gG,fj l)
def wV(l:Lg)(off:Int):Bool:=decide (l.start≤off) && decide (off≤rK l)
def oo(l:List Sg)(to:Int):List Sg:=(l.filter fun s=>decide (s.base < to)).map fun s=>tR s to
def qt(l:List Sg)(to:Int):List Sg:=if oo l to=[]then[⟨to,[]⟩]else oo l to
def lZ(l:Lg)(to:Int):Lg × Int :=
 if fj l=0 then if wV l to=true then(⟨l.limit,l.start,qt l.segs to⟩,0)else(gG,90)else(gG,fj l)
def sQ(l:Lg)(n:Nat):Sg:=l.segs.getD n iU
def iT(p:Option Sg)(s:Sg):Bool :=
 match p with
 | none=>true
 | some a=>fe a && sv a s
def fX:Option Sg→List Sg→List Sg
 | _,[]=>[]
 | p,s :: ss=>if iT p s=true then(lj s).1 :: fX (some s) ss else[]
def gl:List Sg→Nat
 | []=>0
 | s :: ss=>s.bytes.length+gl ss
theorem kO(a b:List Sg):gl (a++b)=gl a+gl b:=by
 induction a with
 | nil=>simp[gl]
 | cons x a ih=>simp only[List.cons_append,gl,ih];omega
def m7(l:Lg):Bool:=match l.segs with | []=>false | s :: _=>inO s.base
def ia(l:Lg):Lg × Int :=
 if mr l.limit l.start=true∧m7 l=true then(⟨l.limit,l.start,fX none l.segs⟩,(gl l.segs:Int) - (gl (fX none l.segs):Int))else(gG,0)
theorem wL{a b:Int}(h:mr a b=true):ng a=true:=by
 have:=hX.1 h;exact sr.2 ⟨by omega,by omega⟩
theorem Fk{a b:Int}(h:mr a b=true):inO b=true:=(hX.1 h).2
theorem sk{b:Batch}(h:fp b=0):b.base≤b.last:=(iP h).1.2.2.1.1
theorem uC{b:Batch}(h:fp b=0):inO b.base=true∧inO b.last=true:=by
 obtain⟨⟨f1,f2,-⟩,-⟩:=(iP h).1;simp[rng]at f1 f2;exact⟨fP.2 (by omega),fP.2 (by omega)⟩
theorem zV{s:Sg}{b:Batch}{limit:Int}(hw:fe s=true)(hl:ng limit=true)(h0:fp b=0)(ho:jL s≤b.base):
  jn s b limit=if limit < ((s.bytes.length+(dH b).length:Nat):Int)then(iU,70)else(⟨s.base,s.bytes++dH b⟩,0):=by
 have hw:=eI.1 hw;split
 ·rename_i h;exact Aq ⟨hw.1,hw.2,hl⟩ h0 (by omega) h
 ·rename_i h;exact ww ⟨hw.1,hw.2,hl⟩ h0 (by omega) h
theorem EZ{base:Int}(h:inO base=true):uf base=(⟨base,[]⟩,0):=if_pos h
theorem Ca(base:Int):jL ⟨base,[]⟩=base:=rfl
theorem E7{b:Batch}{limit:Int}(hl:ng limit=true)(h0:fp b=0)(h1:((dH b).length:Int)≤limit):ofS b.base [b] limit=(⟨b.base,dH b⟩,0):=by
 have hin:=(uC h0).1;have ha:jn ⟨b.base,[]⟩ b limit=(⟨b.base,dH b⟩,0):=by
  have:=ww (s:=⟨b.base,[]⟩) (x:=b) (limit:=limit) ⟨rfl,hin,hl⟩ h0 (by rw[Ca];omega) (by simp;omega);rw[this];simp
 unfold ofS;rw[EZ hin,if_pos ⟨rfl,hl⟩];simp only[ofL,ha,if_true]
theorem oG{b:Batch}(h0:fp b=0):em ⟨b.base,dH b⟩=[b] :=
 Scans.is (r:=[]) ⟨by simp[fh],fun x hx=>by simp at hx;subst hx;exact h0,⟨Int.le_refl _,trivial⟩,oW⟩
theorem vQ{b:Batch}(h0:fp b=0):fe ⟨b.base,dH b⟩=true :=
 eI.2 ⟨by rw[fT,oG h0];simp[fh],(uC h0).1⟩
theorem BB{b:Batch}(h0:fp b=0):jL ⟨b.base,dH b⟩=b.last+1:=by rw[jL,oG h0];rfl
theorem pg{s:Sg}(h:fT s=s.bytes.length):s.bytes=fh (em s):=by
 obtain⟨r,hs⟩:=eX s;have e:=hs.eq;have hl:=congrArg List.length e;rw[List.length_append]at hl;have:r=[]:=List.eq_nil_of_length_eq_zero (by unfold fT at h;omega);rw[this,List.append_nil]at e;exact e
theorem EO{s:Sg}{b:Batch}(hw:fe s=true)(h0:fp b=0)(ho:jL s≤b.base):em ⟨s.base,s.bytes++dH b⟩=em s++[b]∧fe ⟨s.base,s.bytes++dH b⟩=true∧jL ⟨s.base,s.bytes++dH b⟩=b.last+1:=by
 have hw:=eI.1 hw;have h1:em ⟨s.base,s.bytes++dH b⟩=em s++[b]:=Scans.is (r:=[]) (vI hw.1 h0 ho);refine⟨h1,eI.2 ⟨?_,hw.2⟩,?_⟩
 ·rw[fT,h1,kU,← pg hw.1];simp[fh]
 ·rw[jL,h1,kT];rfl
theorem gE{l:List Sg}(h:l≠[]):∃ s,l[l.length - 1]?=some s∧l=l.take (l.length - 1)++[s]∧ko none l=some s:=by
 have h0:0 < l.length:=List.length_pos_iff.2 h;refine⟨l[l.length - 1]'(by omega),List.getElem?_eq_getElem _,?_,?_⟩
 ·have:=ew (l:=l) (k:=l.length - 1) (List.getElem?_eq_getElem (by omega))
  rwa [Nat.sub_add_cancel (by omega),List.take_length]at this
 ·exact p5 none (List.getElem?_eq_getElem _)
theorem wc(l:Lg):l.start≤rK l:=by
 unfold rK FG;split <;> omega
theorem oy{l:Lg}(h:fj l=0):∃ s,l.segs[l.segs.length - 1]?=some s∧l.segs=l.segs.take (l.segs.length - 1)++[s]∧xm l=s∧rK l=max l.start (jL s)∧AX l.limit (ko none (l.segs.take (l.segs.length - 1))) s:=by
 obtain⟨h1,h2,h3,h4⟩:=gY h;obtain⟨s,e1,e2,e3⟩:=gE h2;refine⟨s,e1,e2,by rw[xm,e3];rfl,by rw[rK,e3];rfl,?_⟩;rw[e2,jX]at h3;exact h3.2.1
theorem iW{l:Lg}{b:Batch}(h:(gR l b).2=0):(fj l=0∧fp b=0∧rK l≤b.base∧((dH b).length:Int)≤l.limit)∧((gR l b).1.limit=l.limit∧(gR l b).1.start=l.start)∧fj (gR l b).1=0∧rK (gR l b).1=b.last+1∧bsS (gR l b).1.segs=bsS l.segs++[b]∧((gR l b).1.segs.length=l.segs.length∨(gR l b).1.segs.length=l.segs.length+1):=by
 have hge:=wc l;unfold gR at h ⊢;by_cases k0:¬ fj l=0
 ·rw[if_neg k0]at h;exact absurd h k0
 have k0:=Decidable.not_not.1 k0;rw[if_pos k0]at h ⊢;by_cases k1:¬ fp b=0
 ·rw[if_neg k1]at h;exact absurd h k1
 have k1:=Decidable.not_not.1 k1;rw[if_pos k1]at h ⊢;by_cases k2:b.base < rK l
 ·rw[if_pos k2]at h;cases h
 rw[if_neg k2]at h ⊢;by_cases k3:l.limit < ((dH b).length:Int)
 ·rw[if_pos k3]at h;cases h
 rw[if_neg k3]at h ⊢;refine⟨⟨k0,k1,by omega,by omega⟩,?_⟩;obtain⟨c1,c2,c3,c4⟩:=gY k0;obtain⟨s,e1,e2,e3,e4,e5⟩:=oy k0;have hb:=sk k1;rw[e3]at h ⊢;have hap:=zV e5.1.1 (wL c1) k1 (show jL s≤b.base by omega);have hlen:0 < l.segs.length:=List.length_pos_iff.2 c2;have hok:=c3;rw[e2,jX]at hok;by_cases k4:l.limit < ((s.bytes.length+(dH b).length:Nat):Int)
 ·rw[if_pos k4]at hap;rw[hap]at h ⊢;rw[if_neg (by decide)]at h ⊢;by_cases k5:l.segs.length=256
  ·rw[if_pos k5]at h;cases h
  rw[if_neg k5]at h ⊢;refine⟨⟨rfl,rfl⟩,lp c1 (by simp) ?_ (by simp;omega),?_,?_,.inr (by simp)⟩
  ·show okS l.limit none (l.segs++[⟨b.base,dH b⟩]);rw[jX];refine⟨c3,⟨⟨vQ k1,by show((dH b).length:Int)≤_;omega⟩,fun a ha=>?_⟩,trivial⟩;rw[p5 none e1]at ha;cases ha;have hwb:s.base < b.base:=by
    have h6:=(eI.1 e5.1.1).1;have h7:=pg h6;obtain⟨r,hs⟩:=eX s;have hne:em s≠[]:=fun hh=>by
     rw[hh]at h7;have:s.bytes.length=0:=by rw[h7];rfl
     omega
    obtain⟨x,bs,hx⟩:=List.exists_cons_of_ne_nil hne;have ho:=hs.ord;have hk:=hs.ok;rw[hx]at ho hk;have h8:=sk (hk x (.head _));have h9:=vE ho.2 (fun z hz=>hk z (.tail _ hz));have h10:jL s=fI (x.last+1) bs:=by rw[jL,hx];rfl
    have h11:=ho.1;omega
   exact ju.2 ⟨hwb,by show jL s≤b.base;omega⟩
  ·show FG l.start (ko none (l.segs++[_]))=_;rw[mN];show max l.start (jL ⟨b.base,dH b⟩)=_;rw[BB k1];omega
  ·show bsS (l.segs++[_])=_;rw[kx];congr 1;rw[iJ,m1,oG k1];rfl
 ·rw[if_neg k4]at hap;rw[hap]at h ⊢;rw[if_pos rfl];obtain⟨g1,g2,g3⟩:=EO e5.1.1 k1 (show jL s≤b.base by omega);have hl2:(l.segs.take (l.segs.length - 1)++[(⟨s.base,s.bytes++dH b⟩:Sg)]).length=l.segs.length:=by
   rw[List.length_append,List.length_take];simp only[List.length_cons,List.length_nil];omega
  refine⟨⟨rfl,rfl⟩,lp c1 (by simp) ?_ (by show List.length _≤_;rw[hl2];omega),?_,?_,.inl hl2⟩
  ·show okS l.limit none (_++[_]);rw[jX];refine⟨hok.1,⟨⟨g2,by show((s.bytes++dH b).length:Int)≤_;rw[List.length_append];omega⟩,fun a ha=>?_⟩,trivial⟩;exact e5.2 a ha
  ·show FG l.start (ko none (_++[_]))=_;rw[mN];show max l.start (jL ⟨s.base,s.bytes++dH b⟩)=_;rw[g3];omega
  ·show bsS (_++[_])=_;rw[kx,iJ,m1,List.append_nil,g1,← List.append_assoc];congr 1
   conv=>rhs;rw[e2]
   rw[kx,iJ,m1,List.append_nil]
theorem oC{l:Lg}{b:Batch}(h:(gR l b).2=0):xF (gR l b).1=xF l++[b]:=by
 obtain⟨⟨-,h1,h2,-⟩,⟨h3,h4⟩,-,-,h5,-⟩:=iW h;have:=wc l;have:=sk h1;unfold xF;rw[h4,h5,im];congr 1;unfold fB;rw[List.filter_cons,if_pos (by simp;omega)];rfl
theorem CD{l:Lg}{b:Batch}(h:¬ (gR l b).2=0):(gR l b).1=gG:=by
 unfold gR at h ⊢
 repeat' split
 all_goals first | rfl | skip
 all_goals simp_all
theorem ur{s:Sg}(h:fe s=true):(fh (em s)).length=s.bytes.length:=(eI.1 h).1
theorem wr{limit:Int}:∀ {l:List Sg} {p:Option Sg},okS limit p l→(fh (bsS l)).length=gl l
 | [],_,_=>rfl
 | s :: l,p,h=>by
  rw[iJ,kU,List.length_append,ur h.1.1.1,gl,wr h.2]
theorem wB{limit:Int}:∀ {l:List Sg} {p:Option Sg},okS limit p l→(gl l:Int)≤limit * l.length
 | [],_,_=>by simp[gl]
 | s :: l,p,h=>by
  have h1:=wB h.2;have h2:=h.1.1.2;rw[gl,List.length_cons];push_cast;rw[Int.mul_add];omega
theorem xu(off:Int)(l:List Batch):(fh (fB off l)).length≤(fh l).length:=by
 induction l with
 | nil=>exact Nat.le_refl _
 | cons b l ih =>
  unfold fB at ih ⊢;rw[List.filter_cons];split
  ·simp only[fg,List.length_append];omega
  ·simp only[fg,List.length_append];omega
theorem HZ{s:Sg}(h:fe s=true):lj s=(s,0):=by
 have:=(eI.1 h).1;unfold lj;rw[this,List.take_length];cases s;simp
theorem oI{limit:Int}:∀ {l m:List Sg} {p:Option Sg},(∀ a,p=some a→fe a=true)→okS limit p l→fX p (l++m)=l++fX (ko p l) m
 | [],m,p,_,_=>rfl
 | s :: l,m,p,hp,h=>by
  have hk:iT p s=true:=by
   cases p with
   | none=>rfl
   | some a=>simp[iT,hp a rfl,h.1.2 a rfl]
  rw[List.cons_append,fX,if_pos hk,HZ h.1.1.1,oI (fun a ha=>by cases ha;exact h.1.1.1) h.2];rfl
theorem CM{limit:Int}{l:List Sg}(h:okS limit none l):fX none l=l:=by
 have:=oI (m:=[]) (fun a ha=>by cases ha) h;rw[List.append_nil]at this;rw[this,fX,List.append_nil]
theorem sV{l:Lg}(h:fj l=0):m7 l=true:=by
 obtain⟨h1,h2,h3,h4⟩:=gY h;unfold m7;cases hs:l.segs with
 | nil=>exact absurd hs h2
 | cons s ss =>
  rw[hs]at h3;exact(eI.1 h3.1.1.1).2
theorem rx{l:Lg}(h:fj l=0):ia l=(l,0):=by
 obtain⟨h1,h2,h3,h4⟩:=gY h;unfold ia;rw[if_pos ⟨h1,sV h⟩,CM h3];simp
structure Hurt (l x:Lg) (s s':Sg) (A C:List Sg) (j:Nat):Prop where
 ok:fj l=0
 lim:x.limit=l.limit
 sta:x.start=l.start
 was:l.segs=A++s :: C
 is_:x.segs=A++s' :: C
 base:s'.base=s.base
 len:s'.bytes.length≤s.bytes.length
 scan:em s'=(em s).take j
 stop:C=[]∨fe s'=false
theorem zh(s:Sg):em (lj s).1=em s∧fT (lj s).1=(lj s).1.bytes.length∧(lj s).1.bytes.length=fT s:=by
 obtain⟨r,h⟩:=eX s;have h1:=o9 h (em s).length;rw[List.take_length]at h1;have h2:=mg s;have h3:(lj s).1.bytes.length=fT s:=by
  unfold lj;rw[List.length_take];omega
 exact⟨h1,by rw[h3];show(fh (em (lj s).1)).length=_;rw[show em (lj s).1=em s from h1];rfl,h3⟩
theorem Hurt.rec_{l x:Lg}{s s':Sg}{A C:List Sg}{j:Nat}(h:Hurt l x s s' A C j):
  ia x=(⟨l.limit,l.start,A++[(lj s').1]⟩,(s'.bytes.length:Int) - (fT s':Int)+(gl C:Int))∧fj ⟨l.limit,l.start,A++[(lj s').1]⟩=0∧(∃ t,xF l=xF ⟨l.limit,l.start,A++[(lj s').1]⟩++t):=by
 obtain⟨h1,h2,h3,h4⟩:=gY h.ok;rw[h.was,jX]at h3;obtain⟨hA,hs,hC⟩:=h3;have hin:=(eI.1 hs.1.1).2;obtain⟨f1,f2,f3⟩:=zh s';have fb:(lj s').1.base=s.base:=h.base;have hfw:fe (lj s').1=true:=eI.2 ⟨f2,by rw[fb];exact hin⟩;have hgl:=mg s';have hlen:=h.len;have hk:iT (ko none A) s'=true:=by
  cases he:ko none A with
  | none=>rfl
  | some a =>
   have hwa:fe a=true:=by
    cases A with
    | nil=>cases he
    | cons y A' =>
     obtain⟨t,e1,e2,e3⟩:=gE (l:=y :: A') (by simp);rw[e3]at he;cases he;exact(vS hA a (by rw[e2];simp)).1
   have:=ju.1 (hs.2 a he);simp[iT,hwa,sv,h.base,this]
 have hrec:fX none x.segs=A++[(lj s').1]:=by
  rw[h.is_,oI (fun a ha=>by cases ha) hA,fX,if_pos hk];congr 1;cases C with
  | nil=>rfl
  | cons c C =>
   have hw:fe s'=false:=by rcases h.stop with hh | hh;cases hh;exact hh
   rw[fX,if_neg (by simp[iT,hw])]
 have hch:fj ⟨l.limit,l.start,A++[(lj s').1]⟩=0:=by
  refine lp h1 (by simp) ?_ ?_
  ·show okS l.limit none (A++[_]);rw[jX];refine⟨hA,⟨⟨hfw,?_⟩,fun a ha=>?_⟩,trivial⟩
   ·have:=hs.1.2;omega
   ·have:=ju.1 (hs.2 a ha);exact ju.2 (by rw[fb];exact this)
  ·have h5:=congrArg List.length h.was;simp at h5 ⊢;omega
 refine⟨?_,hch,?_⟩
 ·have hhead:m7 x=true:=by
   unfold m7;rw[h.is_];have hh:=sV h.ok;unfold m7 at hh;rw[h.was]at hh;cases A with
   | nil=>simp only[List.nil_append]at hh ⊢;rw[h.base];exact hh
   | cons y A'=>exact hh
  unfold ia;rw[h.lim,h.sta,if_pos ⟨h1,hhead⟩,hrec,h.is_,kO,kO,gl,gl,gl,f3];congr 1;omega
 ·refine⟨fB l.start ((em s).drop j++bsS C),?_⟩;unfold xF;dsimp only;rw[h.was,kx,iJ,kx,iJ,m1,List.append_nil,f1,h.scan,← im];congr 1;rw[List.append_assoc,← List.append_assoc ((em s).take j),List.take_append_drop]
theorem BQ{limit start:Int}(h:mr limit start=true):fj ⟨limit,start,[⟨start,[]⟩]⟩=0:=by
 have:=(hX.1 h);exact lp h (by simp) ⟨⟨⟨eI.2 ⟨rfl,this.2⟩,by show(0:Int)≤limit;omega⟩,fun a ha=>by cases ha⟩,trivial⟩ (by simp)
theorem qd{limit:Int}:∀ {l:List Sg} {a:Sg},okS limit (some a) l→∀ c∈l,jL a≤c.base
 | s :: l,a,h,c,hc=>by
  have h1:=ju.1 (h.1.2 a rfl);rcases List.mem_cons.1 hc with rfl | hc
  ·exact h1.2
  ·have h2:=qd h.2 c hc;have h3:=xE s;omega
theorem l8{α:Type}{l:List α}{k:Nat}{x:α}(h:l[k]?=some x):l=l.take k++x :: l.drop (k+1):=by
 obtain⟨h1,h2⟩:=List.getElem?_eq_some_iff.1 h
 conv=>lhs;rw[← List.take_append_drop k l,List.drop_eq_getElem_cons h1,h2]
theorem AA{α:Type}{l:List α}{k:Nat}{x:α}(y:α)(h:l[k]?=some x):l.set k y=l.take k++y :: l.drop (k+1):=by
 have h1:=(List.getElem?_eq_some_iff.1 h).1;rw[List.set_eq_take_append_cons_drop,if_pos h1]
theorem F142:Fun Tryz.prog 142 9 v142 c142 o142:=Fun.mkA Tryz.func142 Tryz.ntmps142
theorem F103:Fun Tryz.prog 103 15 v103 c103 o103:=Fun.mkA Tryz.func103 Tryz.ntmps103
theorem F112:Fun Tryz.prog 112 20 v112 c112 o112:=Fun.mkA Tryz.func112 Tryz.ntmps112
theorem F113:Fun Tryz.prog 113 17 v113 c113 o113:=Fun.mkA Tryz.func113 Tryz.ntmps113
theorem F115:Fun Tryz.prog 115 7 v115 c115 o115:=Fun.mkA Tryz.func115 Tryz.ntmps115
theorem F63:Fun Tryz.prog 63 13 v63 c63 o63:=Fun.mkA Tryz.func63 Tryz.ntmps63
theorem F206:Fun Tryz.prog 206 15 v206 c206 o206:=Fun.mkA Tryz.func206 Tryz.ntmps206
theorem F62:Fun Tryz.prog 62 56 v62 c62 o62:=Fun.mkA Tryz.func62 Tryz.ntmps62
theorem F22:Fun Tryz.prog 22 8 v22 c22 o22:=Fun.mkA Tryz.func22 Tryz.ntmps22
def ek(l:Lg)(A:Option Addr)(c:Nat):List Value:=[.int .i64 l.limit,.int .i64 l.start,.slice A l.segs.length c]
def LE(G:Nat→Option Obj)(l:Lg)(cs:List Value):Prop:=∃ A c,cs=ek l A c∧SlV G (SE G) 2 (.slice A l.segs.length c) l.segs∧I64 l.limit∧I64 l.start
def smL(l:List Sg):Prop:=∀ s∈l,s.bytes.length≤100000
theorem SlSE.le{G G':Nat→Option Obj}(hg:Gle G G'){v:Value}{l:List Sg}(h:SlV G (SE G) 2 v l):SlV G' (SE G') 2 v l:=by
 obtain⟨A,c,h1,h2,h3,h4⟩:=h;exact⟨A,c,h1,h2,h3,h4.le hg fun _ _ h=>SE.le hg h⟩
theorem LE.le{G G':Nat→Option Obj}(hg:Gle G G'){l:Lg}{cs:List Value}(h:LE G l cs):LE G' l cs:=by
 obtain⟨A,c,h1,h2,h3⟩:=h;exact⟨A,c,h1,SlSE.le hg h2,h3⟩
theorem mR(n:Int)(G:Nat→Option Obj):FnS Tryz.prog 142 #[.int .i64 n] G (.bool (inO n)):=by
 refine F142.fnS (by simp) (dF ?_);unfold c142;intros;refine gr 0 0 ?_;refine sJ c142r0.eq_1 ?_;intros;refine gr 3 9 ?_;refine sJ c142r1.eq_1 ?_;refine gd (fun h=>?_) (fun h=>?_)
 ·have h:=of_decide_eq_true h;refine sI ?_;intros;refine rV ?_;simp only[push_cast,Nat.reduceBEq];rw[inO,decide_eq_true h,Bool.true_and]
 ·have h:=of_decide_eq_false h;refine sI ?_;intros;refine rV ?_;simp only[push_cast,Nat.reduceBEq];rw[inO,decide_eq_false h,Bool.false_and]
theorem xA(a b:Int)(G:Nat→Option Obj):FnS Tryz.prog 103 #[.int .i64 a,.int .i64 b] G (.bool (mr a b)):=by
 refine F103.fnS (by simp) (dF ?_);unfold c103;intros;refine gr 0 0 ?_;refine sJ c103r0.eq_1 ?_;intros;refine gr 5 15 ?_;refine sJ c103r1.eq_1 ?_;refine gd (fun h=>?_) (fun h=>?_)
 ·refine sI ?_;refine gd (fun h2=>?_) (fun h2=>?_)
  ·refine sI ?_;refine(mR _ _ _ _).mono ?_;rintro _ _ ⟨rfl,rfl⟩;refine sI ?_;intros;refine rV ?_;simp only[push_cast,Nat.reduceBEq];rw[mr,h,h2,Bool.true_and,Bool.true_and]
  ·refine sI ?_;intros;refine rV ?_;simp only[push_cast,Nat.reduceBEq];rw[mr,h2,Bool.and_false,Bool.false_and]
 ·refine sI ?_;intros;refine rV ?_;simp only[push_cast,Nat.reduceBEq];rw[mr,h,Bool.false_and,Bool.false_and]
theorem sL(s:Sg)(cs:List Value)(G:Nat→Option Obj)(hs:SE G s cs)(hb:s.bytes.length≤1000000):FnS Tryz.prog 112 #[.agg cs.toArray] G (.bool (fe s)):=by
 have hscan:=nO s cs G hs hb;obtain⟨A,c,rfl,hl,hi⟩:=hs;have hd:decide (((fT s:Nat):Int)=((s.bytes.length:Nat):Int))=decide (fT s=s.bytes.length):=decide_eq_decide.2 (by omega);refine F112.fnS (by simp) (dF ?_);unfold c112;unfold iB at hscan ⊢;intros;refine gr 0 0 ?_;refine sJ c112r0.eq_1 ?_;intros;refine gr 5 10 ?_;refine sJ c112r1.eq_1 ?_;refine(hscan _ _).mono ?_
 rintro r h' ⟨G1,L',rfl,hg1,u,zc,rfl,hzc,rfl⟩;refine sI ?_;intros;refine gr 11 20 ?_;refine sJ c112r2.eq_1 ?_;refine(mR _ _ _ _).mono ?_;rintro _ _ ⟨rfl,rfl⟩;refine sI ?_;refine gd (fun k1=>?_) (fun k1=>?_)
 ·refine sJ @hd ?_;intros;refine rV ?_;simp only[push_cast,Nat.reduceBEq];rw[fe,k1,Bool.true_and]
 ·refine sI ?_;intros;refine rV ?_;simp only[push_cast,Nat.reduceBEq];rw[fe,k1,Bool.false_and]
theorem nr(s t:Sg)(cs ds:List Value)(G:Nat→Option Obj)(hs:SE G s cs)(ht:SE G t ds)(hb:s.bytes.length≤1000000):FnS Tryz.prog 113 #[.agg cs.toArray,.agg ds.toArray] G (.bool (sv s t)):=by
 have hend:=wv s cs G hs hb;obtain⟨A,c,rfl,hl,hi⟩:=hs;obtain⟨B,d,rfl,hm,hj⟩:=ht;refine F113.fnS (by simp) (dF ?_);unfold c113;unfold iB at hend ⊢;intros;refine gr 0 0 ?_;refine sJ c113r0.eq_1 ?_
 (intros;try refine du ?_);refine o3 _ (List.Sublist.refl _) (by decide) ?_;refine sJ c113r1.eq_1 ?_
 refine gx (fun k1=>?_) (fun k1=>?_)
 ·refine sI ?_;refine(hend _ _).mono ?_;rintro _ _ ⟨rfl,rfl⟩;refine sI ?_;intros;refine rV ?_;simp only[push_cast,Nat.reduceBEq];rw[sv,k1,Bool.true_and]
 ·refine sI ?_;intros;refine rV ?_;simp only[push_cast,Nat.reduceBEq];rw[sv,k1,Bool.false_and]
theorem xd(l:Lg)(A:Option Addr)(c:Nat)(G:Nat→Option Obj)(hl:l.segs.length≤1000000):FnS Tryz.prog 115 #[.agg #[.int .i64 l.limit,.int .i64 l.start,.slice A l.segs.length c]] G (.int .i64 ((l.segs.length:Int) - 1)):=by
 have hw:IntKind.i64.wrap ((l.segs.length:Int) - 1)=(l.segs.length:Int) - 1:=by rw[dU] <;> omega
 refine F115.fnS (by simp) (dF ?_);unfold c115;intros;refine gr 0 0 ?_;refine sJ c115r0.eq_1 ?_;intros;refine gr 4 7 ?_;refine sJ2 c115r1.eq_1 @hw ?_;intros;refine rV ?_;simp only[push_cast,Nat.reduceBEq]
theorem wU(l:Lg)(cs:List Value)(G:Nat→Option Obj)(hl:LE G l cs)(hb:smL l.segs)(hn:l.segs≠[])(hm:l.segs.length≤1000000):FnS Tryz.prog 63 #[.agg cs.toArray] G (.int .i64 (rK l)):=by
 obtain⟨A,c,rfl,hsl,hi,hj⟩:=hl;obtain⟨A0,c0,he,hc,hmx,hA⟩:=hsl;cases he;obtain⟨s,e1,e2,e3⟩:=gE hn;have h0:0 < l.segs.length:=List.length_pos_iff.2 hn;refine F63.fnS (by simp) (dF ?_);unfold c63 ek;intros;refine gr 0 0 ?_;refine sJ c63r0.eq_1 ?_
 (intros;try refine du ?_);refine o3 _ (List.Sublist.refl _) (by decide) ?_;refine sJ c63r1.eq_1 ?_
 refine(xd l A c _ hm _ _).mono ?_;rintro _ _ ⟨rfl,rfl⟩;refine sI ?_;refine hA.y_ld e1 (by omega) rfl ?_;rintro a1 ha1 cs hse;have hend:=wv s cs G hse (by have:=hb s (List.mem_of_getElem? e1);omega);obtain⟨B,d,rfl,-⟩:=hse;unfold iB at hend ⊢;refine sI ?_;refine(hend _ _).mono ?_;rintro _ _ ⟨rfl,rfl⟩;refine sI ?_;intros;refine rV ?_;simp only[push_cast,Nat.reduceBEq];rw[rK,e3];rfl
theorem tQ(l:Lg)(off:Int)(cs:List Value)(G:Nat→Option Obj)(hl:LE G l cs)(hb:smL l.segs)(hn:l.segs≠[])(hm:l.segs.length≤1000000):FnS Tryz.prog 206 #[.agg cs.toArray,.int .i64 off] G (.bool (wV l off)):=by
 have hend:=wU l cs G hl hb hn hm;obtain⟨A,c,rfl,hsl,hi,hj⟩:=hl;refine F206.fnS (by simp) (dF ?_);unfold c206;unfold ek at hend ⊢;intros;refine gr 0 0 ?_;refine sJ c206r0.eq_1 ?_;intros;refine gr 6 15 ?_;refine sJ c206r1.eq_1 ?_;refine gd (fun k1=>?_) (fun k1=>?_)
 ·refine sI ?_;refine(hend _ _).mono ?_;rintro _ _ ⟨rfl,rfl⟩;refine sI ?_;intros;refine rV ?_;simp only[push_cast,Nat.reduceBEq];rw[wV,k1,Bool.true_and]
 ·refine sI ?_;intros;refine rV ?_;simp only[push_cast,Nat.reduceBEq];rw[wV,k1,Bool.false_and]
theorem pE{l:List Sg}{k:Nat}{a:Sg}(hk:0 < k)(h:l[k - 1]?=some a):ko none (l.take k)=some a:=by
 have:=pB none h
 rwa [Nat.sub_add_cancel hk]at this
theorem B7{l:Lg}{k:Nat}{s:Sg}(hs:l.segs[k]?=some s)(h:¬ AX l.limit (ko none (l.segs.take k)) s):fj l=1:=by
 unfold fj;rw[if_neg];rintro⟨-,-,h3⟩;exact h ((sU hs).1 (CK h3 (k+1))).2
theorem ls(l:Lg)(cs:List Value)(G:Nat→Option Obj)(hl:LE G l cs)(hb:smL l.segs):FnS Tryz.prog 62 #[.agg cs.toArray] G (.int .i64 (fj l)):=by
 obtain⟨A,c,rfl,hsl,hi,hj⟩:=hl;obtain⟨A0,c0,he,hc,hmx,hA⟩:=hsl;cases he;refine F62.fnS (by simp) (dF ?_);unfold c62 ek;intros;refine gr 0 0 ?_;refine sJ c62r0.eq_1 ?_;intros;refine gr 6 16 ?_;refine sJ c62r1.eq_1 ?_;refine(xA _ _ _ _ _).mono ?_;rintro _ _ ⟨rfl,rfl⟩;refine sI ?_;refine gd (fun k1=>?_) (fun k1=>?_)
 ·have k1:mr l.limit l.start=false:=by simpa using k1
  refine sI ?_;intros;refine gc ?_;refine sI ?_;intros;refine gr 0 0 ?_;refine sJ c62r2.eq_1 ?_;intros;refine rV ?_;simp only[push_cast,Nat.reduceBEq];rw[fj,if_neg (by rw[k1];simp)]
 have k1:mr l.limit l.start=true:=by simpa using k1
 refine sI ?_;intros;refine gc ?_;refine sI ?_;refine gb (fun k2=>?_) (fun k2=>?_)
 ·have k2:l.segs=[]:=List.eq_nil_of_length_eq_zero (by have:=of_decide_eq_true k2;omega);intros;refine gr 0 0 ?_;refine sJ c62r2.eq_1 ?_;intros;refine rV ?_;simp only[push_cast,Nat.reduceBEq];rw[fj,if_neg (by rw[k2];simp)]
 have k2:l.segs≠[]:=fun h=>by rw[h]at k2;simp at k2
 intros;refine gN ?_;intros;refine gr 0 0 ?_;refine sJ c62r3.eq_1 ?_;intros;refine eA (fun e h=>okS l.limit none l.segs∧h=⟨G,[.reg 1 [.int .i64 l.limit,.int .i64 l.start,.slice A l.segs.length c]],[]⟩) ?_ ?_
 ·(intros;try refine du ?_)
  refine dW (fun e h=>∃ k:Nat,(k≤l.segs.length∧okS l.limit none (l.segs.take k))∧e 20=.int .i64 k∧e 19=.int .i64 l.segs.length∧e 18=.slice A l.segs.length c∧h=⟨G,[.reg 1 [.int .i64 l.limit,.int .i64 l.start,.slice A l.segs.length c]],[]⟩) (fun e h=>l.segs.length - iv (e 20)) ?_ ?_
  ·exact⟨0,⟨Nat.zero_le _,trivial⟩,eE,eE,eE,rfl⟩
  rintro e h ⟨k,⟨hk,hok⟩,e20,e19,e18,rfl⟩;refine dz [18,19,20] ?_;refine sJ3 @e18 @e19 @e20 ?_;intros;refine gr 0 0 ?_;refine sJ c62r4.eq_1 ?_;intros;refine gc ?_;refine sI ?_;refine gb (fun ht=>?_) (fun ht=>?_)
  ·have ht:k < l.segs.length:=by have:=of_decide_eq_true ht;omega
   have hw:=fz k c (by omega) hmx;obtain⟨s,hs⟩:∃ s,l.segs[k]?=some s:=⟨l.segs[k],List.getElem?_eq_getElem (by omega)⟩;have hbs:=hb s (List.mem_of_getElem? hs);intros;refine gN ?_;intros;refine gr 22 25 ?_;refine sJ c62r5.eq_1 ?_;refine hA.x_ld hs rfl rfl ?_;rintro a1 ha1 cs hse;have hse0:=hse;have hwh:=sL s cs G hse (by omega);obtain⟨B,d,rfl,hsb,hsi⟩:=hse;unfold iB at hwh hse0 ⊢;refine sI ?_
   have hno:∀ (fr:List Td) (e:Env) (X:List Kx.Item),¬ AX l.limit (ko none (l.segs.take k)) s→go none Tryz.prog 56 v62.1 v62.2 (fW o62 fun v h=>v=.int .i64 (fj l)) (Td.s ((SC.reg false c62r7).seq .ret) :: fr) e ⟨G,X,[]⟩:=fun fr e X hn=>by
    intros;refine gr 0 0 ?_;refine sJ c62r7.eq_1 ?_;intros;refine rV ?_;simp only[push_cast,Nat.reduceBEq];rw[B7 hs hn]
   have hnx:AX l.limit (ko none (l.segs.take k)) s→okS l.limit none (l.segs.take (k+1)):=fun h=>(sU hs).2 ⟨hok,h⟩
   (intros;try refine du ?_);refine o3 _ (List.Sublist.refl _) (by decide) ?_;refine sJ c62r6.eq_1 ?_
   refine gx (fun k3=>?_) (fun k3=>?_)
   ·have k3:=of_decide_eq_true k3;refine sI ?_;intros;refine gc ?_;refine sI ?_;exact hno _ _ _ fun h=>by have:=h.1.2;omega
   have k3:=of_decide_eq_false k3;refine sI ?_;refine(hwh _ _).mono ?_;rintro _ _ ⟨rfl,rfl⟩;refine sI ?_;refine gx (fun k4=>?_) (fun k4=>?_)
   ·have k4:fe s=false:=by simpa using k4
    refine sI ?_;intros;refine gc ?_;refine sI ?_;exact hno _ _ _ fun h=>by have:=h.1.1;rw[k4]at this;cases this
   have k4:fe s=true:=by simpa using k4
   refine sI ?_;refine gx (fun k5=>?_) (fun k5=>?_)
   ·have k5:0 < k:=by have:=of_decide_eq_true k5;omega
    have hw1:IntKind.i64.wrap ((k:Int) - 1)=(k:Int) - 1:=by unfold maxLen at hmx;rw[dU] <;> omega
    obtain⟨p,hp⟩:∃ p,l.segs[k - 1]?=some p:=⟨l.segs[k - 1],List.getElem?_eq_getElem (by omega)⟩;have hbp:=hb p (List.mem_of_getElem? hp);have hep:=pE k5 hp;refine sJ @hw1 ?_;refine hA.y_ld hp (by omega) rfl ?_;rintro a2 ha2 cs2 hpe;have hfo:=nr p s cs2 _ G hpe hse0 (by omega);obtain⟨B2,d2,rfl,-⟩:=hpe;unfold iB at hfo ⊢;refine sI ?_;refine(hfo _ _).mono ?_;rintro _ _ ⟨rfl,rfl⟩;refine sI ?_
    intros;refine gc ?_;refine sI ?_;refine gb (fun k6=>?_) (fun k6=>?_)
    ·have k6:sv p s=false:=by simpa using k6
     exact hno _ _ _ fun h=>by have:=h.2 p hep;rw[k6]at this;cases this
    ·have k6:sv p s=true:=by simpa using k6
     intros;refine gN ?_;refine dx (dD (L':=[.reg 1 [.int .i64 l.limit,.int .i64 l.start,.slice A l.segs.length c]]) (.cons _ (List.Sublist.refl _))) ?_;intros;refine gr 51 52 ?_;refine sJ2 c62r8.eq_1 @hw ?_
     (intros;try refine du ?_)
     refine eh ⟨⟨k+1,⟨by omega,hnx ⟨⟨k4,by omega⟩,fun a ha=>by rw[hep]at ha;cases ha;exact k6⟩⟩,eE,eE,eE,rfl⟩,?_⟩;refine sI ?_;omega
   ·have k5:k=0:=by have:=of_decide_eq_false k5;omega
    refine sI ?_;intros;refine gc ?_;refine sI ?_;refine dx (dD (L':=[.reg 1 [.int .i64 l.limit,.int .i64 l.start,.slice A l.segs.length c]]) (.cons _ (List.Sublist.refl _))) ?_;intros;refine gr 51 52 ?_;refine sJ2 c62r8.eq_1 @hw ?_
    (intros;try refine du ?_)
    refine eh ⟨⟨k+1,⟨by omega,hnx ⟨⟨k4,by omega⟩,fun a ha=>by rw[k5]at ha;cases ha⟩⟩,eE,eE,eE,rfl⟩,?_⟩;refine sI ?_;omega
  ·have ht:k=l.segs.length:=by have:=of_decide_eq_false ht;omega
   subst ht;rw[List.take_length]at hok;refine dT ?_;refine sI ?_;intros;refine gN ?_;exact eh ⟨hok,rfl⟩
 rintro e h ⟨hok,rfl⟩;refine dz [] ?_;intros;have hd:decide ((l.segs.length:Int) > 256)=decide (256 < l.segs.length):=decide_eq_decide.2 (by omega);intros;refine gr 53 55 ?_;refine sJ c62r9.eq_1 ?_;intros;refine gc ?_;refine sI ?_;refine gb (fun k3=>?_) (fun k3=>?_)
 ·have k3:=of_decide_eq_true k3;intros;refine gr 0 0 ?_;refine sJ c62r10.eq_1 ?_;intros;refine rV ?_;simp only[push_cast,Nat.reduceBEq];rw[fj,if_pos ⟨k1,k2,hok⟩,if_pos (by omega)]
 ·have k3:=of_decide_eq_false k3;intros;refine gN ?_;intros;refine gr 0 0 ?_;refine sJ c62r11.eq_1 ?_;intros;refine rV ?_;simp only[push_cast,Nat.reduceBEq];rw[fj,if_pos ⟨k1,k2,hok⟩,if_neg (by omega)]
theorem rI(l:Lg)(cs:List Value)(G:Nat→Option Obj)(hl:LE G l cs)(hb:smL l.segs)(hm:l.segs.length≤1000000):FnS Tryz.prog 22 #[.agg cs.toArray] G (.int .i64 (eD l)):=by
 have hchk:=ls l cs G hl hb;have hend:=wU l cs G hl hb;obtain⟨A,c,rfl,hsl,hi,hj⟩:=hl;refine F22.fnS (by simp) (dF ?_);unfold c22;unfold ek at hchk hend ⊢;intros;refine gr 0 0 ?_;refine sJ c22r0.eq_1 ?_;intros;refine gr 3 5 ?_;refine sJ c22r1.eq_1 ?_;refine(hchk _ _).mono ?_;rintro _ _ ⟨rfl,rfl⟩;refine sI ?_;intros;refine gc ?_;refine sI ?_;refine gb (fun k1=>?_) (fun k1=>?_)
 ·have k1:=of_decide_eq_true k1;intros;refine gr 0 0 ?_;refine sJ c22r2.eq_1 ?_;intros;refine rV ?_;simp only[push_cast,Nat.reduceBEq];rw[eD,if_neg k1]
 ·have k1:fj l=0:=by simpa using k1
  intros;refine gN ?_;intros;refine gr 6 8 ?_;refine sJ c22r3.eq_1 ?_;refine(hend (gY k1).2.1 hm _ _).mono ?_;rintro _ _ ⟨rfl,rfl⟩;refine sI ?_;intros;refine rV ?_;simp only[push_cast,Nat.reduceBEq];rw[eD,if_pos k1]
end Go.Proofs.YtpmofpekcbghnaaGreat
namespace Go.Proofs.YtpmofpekcbghnaaGreat
open Go Go.Kx Go.RowKit
theorem tD(W:World):fR Tryz.prog W 31 (fun(l:List Sg) cs=>∃ A c,cs=[.slice A l.length c]∧l.length≤c∧c≤maxLen∧SlA (m9 W) (SE (m9 W)) 2 A l) :=
 gC Tryz.underlying31 (by kernel_rfl) (vr W)
theorem wu(W:World):fR Tryz.prog W 33 (LE (m9 W)):=fun H enc fuel cs x hx=>by
 obtain⟨hl,hf⟩:=gj Tryz.underlying33 (by kernel_rfl) (by kernel_rfl) hx;obtain⟨v0,_,_,c0,t0⟩:=hf 0 _ rfl;obtain⟨v1,_,_,c1,t1⟩:=hf 1 _ rfl;obtain⟨v2,_,_,c2,t2⟩:=hf 2 _ rfl;obtain⟨n0,e0,w0⟩:=(eb Tryz.underlying3).at_ t0;obtain⟨n1,e1,w1⟩:=(eb Tryz.underlying3).at_ t1;obtain⟨n2,A,c,e2,w2⟩:=(tD W).at_ t2;cases e0;cases e1;cases e2;refine⟨⟨n0,n1,n2⟩,A,c,?_,⟨A,c,rfl,w2⟩,fx w0,fx w1⟩
 match cs,hl with
 | [_,_,_],_=>cases c0;cases c1;cases c2;rfl
end Go.Proofs.YtpmofpekcbghnaaGreat
namespace Go.Proofs.YtpmofpekcbghnaaGreat
open Go Go.Kx
theorem F86:Fun Tryz.prog 86 8 v86 c86 o86:=Fun.mkA Tryz.func86 Tryz.ntmps86
theorem F122:Fun Tryz.prog 122 11 v122 c122 o122:=Fun.mkA Tryz.func122 Tryz.ntmps122
theorem F46:Fun Tryz.prog 46 17 v46 c46 o46:=Fun.mkA Tryz.func46 Tryz.ntmps46
theorem F69:Fun Tryz.prog 69 89 v69 c69 o69:=Fun.mkA Tryz.func69 Tryz.ntmps69
def LgR(p:Lg × Int)(G:Nat→Option Obj)(r:Value):Prop:=∃ cs,r=.tuple #[.agg cs.toArray,.int .i64 p.2]∧LE G p.1 cs
theorem slN{α:Type}{G:Nat→Option Obj}{E:α→List Value→Prop}{sz:Nat}:SlV G E sz (.slice none 0 0) []:=⟨none,0,rfl,Nat.le_refl _,Nat.zero_le _,fun i x hx=>by simp at hx⟩
theorem iA:I64 0:=by unfold I64;decide
theorem gS{p:Int}{G:Nat→Option Obj}:LgR (gG,p) G (.tuple #[.agg #[.int .i64 0,.int .i64 0,.slice none 0 0],.int .i64 p]):=⟨_,rfl,none,0,rfl,slN,iA,iA⟩
theorem SE1:∀ {G:Nat→Option Obj} (x:Sg) cs,SE G x cs→∀ u∈cs,u.oneCell'=true:=fun x cs h u hu=>by
 obtain⟨A,c,rfl,-⟩:=h;simp[iB]at hu;rcases hu with rfl | rfl <;> rfl
theorem mH(l:List Sg)(v:Value)(G:Nat→Option Obj)(hl:SlV G (SE G) 2 v l)(hb:l.length≤100000):FnO Tryz.prog 86 #[v] G [] (fun _ L' r=>xH (SE G) 120 2 l L' r):=by
 refine F86.fnO (by simp) dt (dF ?_);have hl0:=hl;obtain⟨A,c,rfl,hc,hm,hA⟩:=hl;unfold c86;intros;refine gr 0 0 ?_;refine sJ c86r0.eq_1 ?_;intros;refine gr 3 4 ?_;refine sJ c86r1.eq_1 ?_;intros;refine gc ?_;refine sI ?_;refine gb (fun ht=>?_) (fun ht=>?_)
 ·intros;refine gr 0 0 ?_;refine sJ c86r2.eq_1 ?_
  (intros;try refine du ?_)
  have hA0:l=[]:=by
   match l,hA with
   | [],_=>rfl
   | x :: xs,hA=>obtain⟨a,_,ha,_⟩:=hA 0 x rfl;subst ha;cases ht
  subst hA0;refine dx (dR none 120 2) ?_;refine dC (dG _ rfl (List.Sublist.refl _) (dw dt) ?_);exact⟨[],.nil,rfl⟩
 ·intros;refine gN ?_;intros;refine gr 5 8 ?_;refine sJ c86r3.eq_1 ?_;intro b hb';refine l5 (.inr ⟨⟨_,rfl⟩,rfl,rfl,rfl,rfl⟩) hl0 rfl SE1 ⟨by omega,by unfold maxLen;omega⟩ fun ys A c hc=>?_
  simp only[Nat.zero_add];refine sI ?_
  (intros;try refine du ?_)
  refine dC (dG _ rfl (List.Sublist.refl _) (dw dt) ?_);exact⟨ys,hc,rfl⟩
theorem iS{α:Type}{P:Program}{f:FuncId}{args:Array Value}{G:Nat→Option Obj}{E:α→List Value→Prop}{et sz:Nat}{zs:List α}(hf:FnO P f args G [] (fun _ L' r=>xH E et sz zs L' r)):
  FnO P f args G [] (fun _ L' r=>∃ A c ys,r=.slice A zs.length c∧(zs.length≤c∧c≤maxLen)∧Cells E sz zs ys∧L'=[.row r et sz zs.length ys]):=fun L D =>
 (hf L D).gx fun v h' ⟨G',L',he,hg,ys,hc,hL⟩=>by
  subst he hL;exact(gK (.head _)).mono fun h' ⟨h1,A,c,h2,h3,h4⟩=>⟨G',_,h1,hg,A,c,ys,h2,⟨h3,h4⟩,hc,rfl⟩
theorem ly(a b:Int)(B C:Option Addr)(m d m' d':Nat)(G:Nat→Option Obj):FnS Tryz.prog 122 #[.agg #[.int .i64 a,.int .i64 b,.slice B m d],.slice C m' d'] G (.agg #[.int .i64 a,.int .i64 b,.slice C m' d']):=by
 refine F122.fnS (by simp) (dF ?_);unfold c122;intros;refine gr 0 0 ?_;refine sJ c122r0.eq_1 ?_;intros;refine gr 6 11 ?_;refine sJ c122r1.eq_1 ?_;intros;refine rV ?_;simp only[push_cast,Nat.reduceBEq]
theorem IF{G:Nat→Option Obj}{A:Option Addr}{l:List Sg}(h:SlA G (SE G) 2 A l):∀ s∈l,I64 s.base:=fun s hs=>by
 obtain⟨i,hi⟩:=List.mem_iff_getElem?.1 hs;obtain⟨a,cs,_,_,⟨_,_,_,_,h⟩,_⟩:=h i s hi;exact h
theorem In{α:Type}{E:α→List Value→Prop}{P:Program}{h:H}{d sz et nb:Nat}{l:List SI}{e:Env}{K:Env→H→Prop}{u:Value}{b:Nat}{zs:List α}{zc cs:List Value}{L2:List Kx.Item}{x:α}(hL:h.L=.row u et sz zs.length zc :: .row (.slice (some ⟨b,0,none⟩) 1 1) et sz 1 cs :: L2)
  (hE:E x cs) (hl:cs.length=sz) (h1:∀ u∈cs,u.oneCell'=true) (hc:Cells E sz zs zc) (hz:zs.length≤1000000) (hnb:nb≤1000)
  (hk:∀ A' c' zc',Cells E sz (zs++[x]) zc'→kR P l d e K (.slice A' (zs++[x]).length c') ⟨h.G,.row (.slice A' (zs++[x]).length c') et sz (zs++[x]).length zc' :: .row (.slice (some ⟨b,0,none⟩) 1 1) et sz 1 cs :: L2,h.D⟩) :
  apX P u (.slice (some ⟨b,0,none⟩) 1 1) et sz nb d l e h K:=by
 refine⟨[],zs.length,zc,.row (.slice (some ⟨b,0,none⟩) 1 1) et sz 1 cs :: L2,1,cs,.inl hL,kZ (h:=h) (by rw[hL];exact .tail _ (.head _)) h1 (by rw[hl,Nat.one_mul]),⟨?_,by unfold maxLen;omega⟩,fun A' c'=>?_⟩
 ·have:(zs.length+1) * nb≤1000001 * 1000:=Nat.mul_le_mul (by omega) hnb;omega
 ·have:=hk A' c' (zc++cs) (hc.app (.one hE hl));simp only[List.length_append,List.length_cons,List.length_nil,Nat.zero_add]at this;exact this
theorem pX{P:Program}{f:FuncId}{args:Array Value}{h:H}{R:Value→H→Prop}{M:H→Prop}(hE:gL P f)(hg:ez h M)(hc:∀ h',M h'→ee P f args h' R):ee P f args h R :=
 ⟨hE,fun β w hs=>by
  obtain⟨h',m,s1,t1,d1,r1⟩:=hg β w hs
  exact((hc h' m).2 β w s1).mono fun _ _ ⟨v,h2,a,⟨b1,b2⟩,c,d,r⟩=>⟨v,h2,a,⟨b1.trans d1,r1.trans b2⟩,c,t1.trans d,r⟩⟩
theorem BL{a b:Int}(h:mr a b=true):I64 a∧I64 b:=by
 have:=hX.1 h;have h2:=fP.1 this.2;constructor <;> (unfold I64;omega)
theorem BK(limit start:Int)(G:Nat→Option Obj):FnD Tryz.prog 46 #[.int .i64 limit,.int .i64 start] G (LgR (vA limit start)):=by
 refine F46.fnD (by simp) (dF ?_);unfold c46;intros;refine gr 0 0 ?_;refine sJ c46r0.eq_1 ?_;intros;refine gr 6 9 ?_;refine sJ c46r1.eq_1 ?_;refine(xA _ _ _ _ _).mono ?_;rintro _ _ ⟨rfl,rfl⟩;refine sI ?_;intros;refine gc ?_;refine sI ?_;refine gb (fun h=>?_) (fun h=>?_)
 ·have h:mr limit start=false:=by simpa using h
  intros;refine gr 10 11 ?_;refine sJ c46r2.eq_1 ?_;intros;refine rV ?_;simp only[push_cast,Nat.reduceBEq];rw[vA,h];exact gS
 ·have h:mr limit start=true:=by simpa using h
  have hi:=BL h;intros;refine gN ?_;intros;refine gr 11 17 ?_;refine sJ c46r3.eq_1 ?_;intro b hb;refine sI ?_;intros;try refine dv ?_
  refine ed (dQ [] _ (by decide) (Cells.one (E:=SE G) (x:=⟨start,[]⟩) ⟨none,0,rfl,SB.nil,hi.2⟩ rfl)) ?_;rintro h' ⟨G1,rfl,hg1,hv1⟩;intros;refine rV ?_;simp only[push_cast,Nat.reduceBEq];rw[vA,if_pos h];exact⟨_,rfl,_,1,rfl,hv1.le (.refl _) fun _ _ h=>SE.le hg1 h,hi.1,hi.2⟩
set_option maxHeartbeats 1000000 in
theorem nt(l:Lg)(x:Batch)(cs ds:List Value)(G:Nat→Option Obj)(hl:LE G l cs)(hb:smL l.segs)(hm:l.segs.length≤1000)(hx:BE G x ds):
  FnD Tryz.prog 69 #[.agg cs.toArray,.agg ds.toArray] G (LgR (gR l x)):=by
 have hl0:=hl;have hx0:=hx;have hchk:=ls l cs G hl hb;have hend:=wU l cs G hl hb;have hbc:=kF x ds G hx;have hsz:=Bw x ds G hx;obtain⟨A,c,rfl,hsl,hi,hj⟩:=hl;obtain⟨A0,c0,he,hc,hmx,hA⟩:=hsl;cases he;obtain⟨B,d,rfl,-⟩:=hx;refine F69.fnD (by simp) (dF ?_);unfold c69;unfold ek at hchk hend hl0 ⊢;unfold eS at hbc hsz hx0 ⊢;intros;refine gr 0 0 ?_;refine sJ c69r0.eq_1 ?_
 intros;refine gr 11 13 ?_;refine sJ c69r1.eq_1 ?_;refine(hchk _ _).mono ?_;rintro _ _ ⟨rfl,rfl⟩;refine sI ?_;intros;refine gr 13 14 ?_;refine sJ c69r2.eq_1 ?_;intros
 refine eA (fun e h=>e 6=.int .i64 (if fj l=0 then fp x else fj l)∧h=⟨G,[.reg 4 [.int .i64 0,.int .i64 0,.slice none 0 0],.reg 3 [.int .i64 x.base,.int .i64 x.last,.int .i64 x.src,.int .i64 x.epoch,.int .i64 x.pid,.int .i64 x.gen,.int .i64 x.seq,.bool x.txn,.int .i64 x.ctl,.slice B x.recs.length d],.reg 2 [.int .i64 l.limit,.int .i64 l.start,.slice A l.segs.length c]],[]⟩) ?_ ?_
 ·intros;refine gc ?_;refine sI ?_;refine gb (fun k1=>?_) (fun k1=>?_)
  ·have k1:=of_decide_eq_true k1;intros;refine gr 15 17 ?_;refine sJ c69r3.eq_1 ?_;refine(hbc _ _).mono ?_;rintro _ _ ⟨rfl,rfl⟩;refine sI ?_
   (intros;try refine du ?_)
   have h6:(if fj l=0 then fp x else fj l)=fp x:=if_pos k1;exact eh ⟨(eJ @h6),rfl⟩
  ·have k1:=of_decide_eq_false k1
   (intros;try refine du ?_)
   have h6:(if fj l=0 then fp x else fj l)=fj l:=if_neg k1;exact eh ⟨(eJ @h6),rfl⟩
 rintro e h ⟨e6,rfl⟩;refine dz [6] ?_;refine sJ @e6 ?_;have hno:¬ (fj l=0∧fp x=0)→¬ (if fj l=0 then fp x else fj l)=0:=fun h h2=>by
  by_cases k:fj l=0
  ·rw[if_pos k]at h2;exact h ⟨k,h2⟩
  ·rw[if_neg k]at h2;exact k h2
 have happ:¬ (fj l=0∧fp x=0)→gR l x=(gG,if fj l=0 then fp x else fj l):=fun h=>by
  unfold gR;by_cases k:fj l=0
  ·rw[if_pos k,if_pos k,if_neg fun h2=>h ⟨k,h2⟩]
  ·rw[if_neg k,if_neg k]
 have hyes:fj l=0∧fp x=0→(if fj l=0 then fp x else fj l)=0:=fun h=>by rw[if_pos h.1,h.2]
 generalize (if fj l=0 then fp x else fj l)=er at *;intros;intros;refine gr 18 20 ?_;refine sJ c69r4.eq_1 ?_;intros;refine gc ?_;refine sI ?_;refine gb (fun k1=>?_) (fun k1=>?_)
 ·have k1:=of_decide_eq_true k1;intros;refine gr 20 22 ?_;refine sJ c69r5.eq_1 ?_;intros;refine rV ?_;simp only[push_cast,Nat.reduceBEq];rw[happ fun h=>k1 (hyes h)];exact gS
 have k1:er=0:=by simpa using k1
 have k2:fj l=0∧fp x=0:=Decidable.not_not.1 fun h=>hno h k1
 clear happ hno hyes;obtain⟨k0,k1⟩:=k2;obtain⟨c1,c2,c3,c4⟩:=gY k0;obtain⟨s,e1,e2,e3,e4,e5⟩:=oy k0;have h0:0 < l.segs.length:=List.length_pos_iff.2 c2;have hz:BA x=(dH x).length:=by rw[BA,we k1]
 rw[hz]at hsz;have hlim:=hX.1 c1;refine sI ?_
 (intros;try refine du ?_);refine o3 _ (List.Sublist.refl _) (by decide) ?_;refine sJ c69r6.eq_1 ?_
 refine(hend c2 (by omega) _ _).mono ?_;rintro _ _ ⟨rfl,rfl⟩;refine sI ?_;intros;refine gc ?_;refine sI ?_;refine gb (fun k2=>?_) (fun k2=>?_)
 ·have k2:=of_decide_eq_true k2;intros;refine gr 28 29 ?_;refine sJ c69r7.eq_1 ?_;intros;refine rV ?_;simp only[push_cast,Nat.reduceBEq];rw[gR,if_pos k0,if_pos k1,if_pos k2];exact gS
 have k2:=of_decide_eq_false k2;intros;refine gN ?_
 (intros;try refine du ?_);refine o3 _ (List.Sublist.refl _) (by decide) ?_;refine sJ c69r8.eq_1 ?_
 refine(hsz _ _).mono ?_;rintro _ _ ⟨rfl,rfl⟩;refine sI ?_;intros;refine gc ?_;refine sI ?_;refine gb (fun k3=>?_) (fun k3=>?_)
 ·have k3:=of_decide_eq_true k3;intros;refine gr 35 36 ?_;refine sJ c69r9.eq_1 ?_;intros;refine rV ?_;simp only[push_cast,Nat.reduceBEq];rw[gR,if_pos k0,if_pos k1,if_neg k2,if_pos k3];exact gS
 have k3:=of_decide_eq_false k3;intros;refine gN ?_;intros;refine gr 36 38 ?_;refine sJ c69r10.eq_1 ?_;refine(xd l A c _ (by omega) _ _).mono ?_;rintro _ _ ⟨rfl,rfl⟩;refine sI ?_;intros;intros;try refine dv ?_
 intros;try refine dv ?_
 refine eA (fun e h=>∃ (G':Nat→Option Obj) (b8:Nat) (A3:Option Addr) (c3:Nat),(Gle G G'∧SB G' (.slice A3 (jn s x l.limit).1.bytes.length c3) (jn s x l.limit).1.bytes)∧e 7=.int .i64 ((l.segs.length:Int) - 1)∧e 8=.pointer (some ⟨b8,0,none⟩)∧e 9=.int .i64 (jn s x l.limit).2∧h=⟨G',[.blk b8 [.int .i64 (jn s x l.limit).1.base,.slice A3 (jn s x l.limit).1.bytes.length c3],.reg 4 [.int .i64 0,.int .i64 0,.slice none 0 0],.reg 3 [.int .i64 x.base,.int .i64 x.last,.int .i64 x.src,.int .i64 x.epoch,.int .i64 x.pid,.int .i64 x.gen,.int .i64 x.seq,.bool x.txn,.int .i64 x.ctl,.slice B x.recs.length d],.reg 2 [.int .i64 l.limit,.int .i64 l.start,.slice A l.segs.length c]],[]⟩) ?_ ?_
 ·(intros;try refine du ?_);refine zS _ (List.Sublist.refl _) (by decide) ?_;refine sJ c69r11.eq_1 ?_
  refine hA.y_ld e1 (by omega) rfl ?_;rintro a1 ha1 cs hse;have hapd:=pZ s x l.limit cs _ G hse (hb s (List.mem_of_getElem? e1)) hx0 hi;obtain⟨B1,d1,rfl,hsb,hsi⟩:=hse;unfold iB at hapd ⊢;refine sI ?_;refine⟨?_,?_⟩
  ·refine(mO hapd _ _).mono ?_;rintro r h' ⟨G1,rfl,hg1,A3,c3,rfl,hs1⟩;refine sI ?_;refine⟨lM hg1,?_⟩;intro b8 hb8;refine⟨dK hg1 (.cons _ (List.Sublist.refl _)),?_⟩;refine sI ?_;refine dI [] _ rfl (Nat.le_refl 2) ⟨rfl,rfl⟩ ?_;refine sI ?_;refine⟨dK hg1 (.cons _ (List.Sublist.refl _)),?_⟩;refine sI ?_;exact eh ⟨G1,b8,A3,c3,⟨hg1,hs1⟩,eE,eE,eE,rfl⟩
  ·intro b8 hb8;refine⟨dK (fun _ _ h=>h) (.cons _ (List.Sublist.refl _)),?_⟩;refine(mO hapd _ _).mono ?_;rintro r h' ⟨G1,rfl,hg1,A3,c3,rfl,hs1⟩;refine sI ?_;refine⟨dK hg1 (.cons _ (List.Sublist.refl _)),?_⟩;refine sI ?_;refine dI [] _ rfl (Nat.le_refl 2) ⟨rfl,rfl⟩ ?_;refine sI ?_;refine⟨dK hg1 (.cons _ (List.Sublist.refl _)),?_⟩;refine sI ?_;exact eh ⟨G1,b8,A3,c3,⟨hg1,hs1⟩,eE,eE,eE,rfl⟩
 rintro e h ⟨G1,b8,A3,c3,⟨hg1,hs1⟩,e7,e8,e9,rfl⟩;refine dz [7,8,9] ?_;refine sJ3 @e7 @e8 @e9 ?_;intros;refine ed jg ?_;rintro h' ⟨G2,rfl,hg2,f8⟩;have hs1:=SB.le hs1 hg2;have hg1:=hg1.trans hg2;have ht1:((l.segs.length:Int) - 1).toNat=l.segs.length - 1:=by omega
 intros;refine gr 50 51 ?_;refine sJ c69r12.eq_1 ?_;intros;refine gc ?_;refine sI ?_;refine gb (fun k4=>?_) (fun k4=>?_)
 ·have k4:(jn s x l.limit).2=0:=of_decide_eq_true k4;have hsl1:SlV G2 (SE G2) 2 (.slice A l.segs.length c) l.segs:=SlSE.le hg1 ⟨A,c,rfl,hc,hmx,hA⟩;have hpre:=SlV.pre (l.segs.length - 1) hsl1 (by omega);have hcl:=mH (l.segs.take (l.segs.length - 1)) _ G2 hpre (by simp;omega);have hlk:(l.segs.take (l.segs.length - 1)).length=l.segs.length - 1:=by simp
  have hxe:gR l x=(⟨l.limit,l.start,l.segs.take (l.segs.length - 1)++[(jn s x l.limit).1]⟩,0):=by
   rw[gR,if_pos k0,if_pos k1,if_neg k2,if_neg k3,e3,if_pos k4]
  have hse2:SE G2 (jn s x l.limit).1 [.int .i64 (jn s x l.limit).1.base,.slice A3 (jn s x l.limit).1.bytes.length c3]:=by
   refine⟨A3,c3,rfl,hs1,?_⟩;obtain⟨-,-,-,-,hh⟩:=uo k4;rw[hh];exact IF hA s (List.mem_of_getElem? e1)
  rw[hxe];clear hxe;generalize (jn s x l.limit).1=s' at *;rw[k4];intros;try refine dv ?_
  (intros;try refine du ?_);refine zS _ (.cons _ (List.Sublist.refl _)) (by decide) ?_;refine sJ c69r13.eq_1 ?_
  refine⟨by omega,?_⟩;refine⟨_,⟨_,[.int .i64 s'.base,.slice A3 s'.bytes.length c3],rfl,rfl,rfl,fun j u hu=>.g (f8 j u hu)⟩,?_⟩;refine sJ @ht1 ?_;refine⟨?_,?_⟩
  ·refine(iS hcl _ _).mono ?_;rintro r h' ⟨G8,L',rfl,hg3,A4,c4,ys,rfl,-,hys,rfl⟩;refine sI ?_;refine⟨dK hg3 (.cons _ (.cons _ (List.Sublist.refl _))),?_⟩;intro b9 hb9;refine⟨dK hg3 (.cons _ (.cons _ (.cons _ (List.Sublist.refl _)))),?_⟩;refine sI ?_;refine x8 (L1:=[]) (L2:=[_,_,_]) (E:=SE G2) (x:=s') rfl hse2 rfl (by simp[Value.oneCell']) hys (by omega) (by omega) fun A' c' zc' hzc'=>?_
   dsimp only;generalize l.segs.take (l.segs.length - 1)++[s']=ZS at *;refine sI ?_;refine⟨dK hg3 (.cons _ (.cons _ (.cons _ (List.Sublist.refl _)))),?_⟩;refine(ly _ _ _ _ _ _ _ _ _ _ _).mono ?_;rintro _ _ ⟨rfl,rfl⟩;refine sI ?_;refine⟨dK hg3 (.cons _ (.cons _ (.cons _ (List.Sublist.refl _)))),?_⟩;refine sI ?_;refine⟨dK hg3 (.cons _ (.cons _ (.cons _ (List.Sublist.refl _)))),?_⟩;refine sI ?_
   (intros;try refine du ?_)
   refine ed (dQ [_] _ (by decide) hzc') ?_;rintro h' ⟨G9,rfl,hg9,hv9⟩;intros;refine rV ?_;simp only[push_cast,Nat.reduceBEq];exact⟨_,rfl,A',c',rfl,hv9.le (.refl _) fun _ _ h=>SE.le (hg3.trans hg9) h,hi,hj⟩
  ·intro b9 hb9;refine⟨dK (fun _ _ h=>h) (.cons _ (.cons _ (List.Sublist.refl _))),?_⟩;refine(iS hcl _ _).mono ?_;rintro r h' ⟨G8,L',rfl,hg3,A4,c4,ys,rfl,-,hys,rfl⟩;refine sI ?_;refine⟨dK hg3 (.cons _ (.cons _ (.cons _ (List.Sublist.refl _)))),?_⟩;refine sI ?_;refine In (L2:=[_,_,_]) (E:=SE G2) (x:=s') rfl hse2 rfl (by simp[Value.oneCell']) hys (by omega) (by omega) fun A' c' zc' hzc'=>?_
   dsimp only;generalize l.segs.take (l.segs.length - 1)++[s']=ZS at *;refine sI ?_;refine⟨dK hg3 (.cons _ (.cons _ (.cons _ (List.Sublist.refl _)))),?_⟩;refine(ly _ _ _ _ _ _ _ _ _ _ _).mono ?_;rintro _ _ ⟨rfl,rfl⟩;refine sI ?_;refine⟨dK hg3 (.cons _ (.cons _ (.cons _ (List.Sublist.refl _)))),?_⟩;refine sI ?_;refine⟨dK hg3 (.cons _ (.cons _ (.cons _ (List.Sublist.refl _)))),?_⟩;refine sI ?_
   (intros;try refine du ?_)
   refine ed (dQ [] _ (by decide) hzc') ?_;rintro h' ⟨G9,rfl,hg9,hv9⟩;intros;refine rV ?_;simp only[push_cast,Nat.reduceBEq];exact⟨_,rfl,A',c',rfl,hv9.le (.refl _) fun _ _ h=>SE.le (hg3.trans hg9) h,hi,hj⟩
 have k4:=of_decide_eq_false k4;clear hs1 f8;intros;refine gN ?_;have hd:decide ((l.segs.length:Int)=256)=decide (l.segs.length=256):=decide_eq_decide.2 (by omega);intros;refine gr 63 65 ?_;refine sJ2 c69r14.eq_1 @hd ?_;intros;refine gc ?_;refine sI ?_;refine gb (fun k5=>?_) (fun k5=>?_)
 ·have k5:=of_decide_eq_true k5;intros;refine gr 66 67 ?_;refine sJ c69r15.eq_1 ?_;intros;refine rV ?_;simp only[push_cast,Nat.reduceBEq];rw[gR,if_pos k0,if_pos k1,if_neg k2,if_neg k3,e3,if_neg k4,if_pos k5];exact gS
 have k5:=of_decide_eq_false k5;have hxe:gR l x=(⟨l.limit,l.start,l.segs++[⟨x.base,dH x⟩]⟩,0):=by
  rw[gR,if_pos k0,if_pos k1,if_neg k2,if_neg k3,e3,if_neg k4,if_neg k5]
 have hof:=E7 (wL c1) k1 (show((dH x).length:Int)≤l.limit by omega);have hxi:I64 x.base:=by obtain⟨_,_,_,_,h,-⟩:=hx0;exact h
 rw[hxe];clear hxe;intros;refine gN ?_;intros;refine gr 67 77 ?_;refine sJ c69r16.eq_1 ?_;intro b9 hb9;refine sI ?_;refine pX F123.enters (dQ [] _ (by decide) (Cells.one (E:=BE G2) (x:=x) (BE.le hg1 hx0) rfl)) ?_;rintro h' ⟨G3,rfl,hg3,hv3⟩;refine(GR x.base l.limit [x] _ G3 (hv3.le (.refl _) fun _ _ h=>BE.le hg3 h) hxi hi _ _).mono ?_;rw[hof];rintro r h' ⟨G4,rfl,hg4,A5,c5,rfl,hs5⟩
 have hg14:=hg1.trans (hg3.trans hg4);have hse2:SE G4 ⟨x.base,dH x⟩ [.int .i64 x.base,.slice A5 (dH x).length c5]:=⟨A5,c5,rfl,hs5,hxi⟩;have hse2:SE G4 ⟨x.base,dH x⟩ [.int .i64 (⟨x.base,dH x⟩:Sg).base,.slice A5 (⟨x.base,dH x⟩:Sg).bytes.length c5]:=hse2;generalize (⟨x.base,dH x⟩:Sg)=s' at *;refine sI ?_;intros;refine gr 77 78 ?_;refine sJ c69r17.eq_1 ?_;have hz0:decide ((0:Int)≠0)=false:=by decide
 refine sJ @hz0 ?_;intros;refine gc ?_;refine sI ?_;intros;refine gN ?_;have hsl1:SlV G4 (SE G4) 2 (.slice A l.segs.length c) l.segs:=SlSE.le hg14 ⟨A,c,rfl,hc,hmx,hA⟩;have hcl:=mH l.segs _ G4 hsl1 (by omega);have hs5:SB G4 (.slice A5 s'.bytes.length c5) s'.bytes:=hs5
 (intros;try refine du ?_);refine zS _ (.cons_cons _ (.cons _ (List.Sublist.refl _))) (by decide) ?_;refine sJ c69r19.eq_1 ?_
 refine⟨?_,?_⟩
 ·refine(iS hcl _ _).mono ?_;rintro r h' ⟨G8,L',rfl,hg3,A4,c4,ys,rfl,-,hys,rfl⟩;refine sI ?_;refine⟨dK hg3 (.cons _ (.cons_cons _ (.cons _ (List.Sublist.refl _)))),?_⟩;intro b9 hb9;refine⟨dK hg3 (.cons _ (.cons _ (.cons_cons _ (.cons _ (List.Sublist.refl _))))),?_⟩;refine sI ?_
  refine x8 (L1:=[]) (L2:=[_,_,_,_]) (E:=SE G4) (x:=s') rfl hse2 rfl (by simp[Value.oneCell']) hys (by omega) (by omega) fun A' c' zc' hzc'=>?_
  dsimp only;generalize l.segs++[s']=ZS at *;refine sI ?_;refine⟨dK hg3 (.cons _ (.cons _ (.cons_cons _ (.cons _ (List.Sublist.refl _))))),?_⟩;refine(ly _ _ _ _ _ _ _ _ _ _ _).mono ?_;rintro _ _ ⟨rfl,rfl⟩;refine sI ?_;refine⟨dK hg3 (.cons _ (.cons _ (.cons_cons _ (.cons _ (List.Sublist.refl _))))),?_⟩;refine sI ?_;refine⟨dK hg3 (.cons _ (.cons _ (.cons_cons _ (.cons _ (List.Sublist.refl _))))),?_⟩
  refine sI ?_
  (intros;try refine du ?_)
  refine ed (dQ [_] _ (by decide) hzc') ?_;rintro h' ⟨G9,rfl,hg9,hv9⟩;intros;refine rV ?_;simp only[push_cast,Nat.reduceBEq];exact⟨_,rfl,A',c',rfl,hv9.le (.refl _) fun _ _ h=>SE.le (hg3.trans hg9) h,hi,hj⟩
 ·intro b9 hb9;refine⟨dK (fun _ _ h=>h) (.cons _ (.cons_cons _ (.cons _ (List.Sublist.refl _)))),?_⟩;refine(iS hcl _ _).mono ?_;rintro r h' ⟨G8,L',rfl,hg3,A4,c4,ys,rfl,-,hys,rfl⟩;refine sI ?_;refine⟨dK hg3 (.cons _ (.cons _ (.cons_cons _ (.cons _ (List.Sublist.refl _))))),?_⟩;refine sI ?_
  refine In (L2:=[_,_,_,_]) (E:=SE G4) (x:=s') rfl hse2 rfl (by simp[Value.oneCell']) hys (by omega) (by omega) fun A' c' zc' hzc'=>?_
  dsimp only;generalize l.segs++[s']=ZS at *;refine sI ?_;refine⟨dK hg3 (.cons _ (.cons _ (.cons_cons _ (.cons _ (List.Sublist.refl _))))),?_⟩;refine(ly _ _ _ _ _ _ _ _ _ _ _).mono ?_;rintro _ _ ⟨rfl,rfl⟩;refine sI ?_;refine⟨dK hg3 (.cons _ (.cons _ (.cons_cons _ (.cons _ (List.Sublist.refl _))))),?_⟩;refine sI ?_;refine⟨dK hg3 (.cons _ (.cons _ (.cons_cons _ (.cons _ (List.Sublist.refl _))))),?_⟩
  refine sI ?_
  (intros;try refine du ?_)
  refine ed (dQ [] _ (by decide) hzc') ?_;rintro h' ⟨G9,rfl,hg9,hv9⟩;intros;refine rV ?_;simp only[push_cast,Nat.reduceBEq];exact⟨_,rfl,A',c',rfl,hv9.le (.refl _) fun _ _ h=>SE.le (hg3.trans hg9) h,hi,hj⟩
theorem F76:Fun Tryz.prog 76 6 v76 c76 o76:=Fun.mkA Tryz.func76 Tryz.ntmps76
theorem F130:Fun Tryz.prog 130 40 v130 c130 o130:=Fun.mkA Tryz.func130 Tryz.ntmps130
theorem F129:Fun Tryz.prog 129 13 v129 c129 o129:=Fun.mkA Tryz.func129 Tryz.ntmps129
theorem F75:Fun Tryz.prog 75 5 v75 c75 o75:=Fun.mkA Tryz.func75 Tryz.ntmps75
theorem F27:Fun Tryz.prog 27 11 v27 c27 o27:=Fun.mkA Tryz.func27 Tryz.ntmps27
def EBx(G:Nat→Option Obj)(x:Batch)(args:Array Value):Prop:=∃ cs,BE G x cs∧args=#[.agg cs.toArray]
theorem yb{l:List Sg}{k:Nat}{s:Sg}(h:l[k]?=some s):bsS (l.take (k+1))=bsS (l.take k)++em s:=by
 rw[ew h,kx,iJ,m1,List.append_nil]
theorem wy(off:Int)(x:Batch):fB off [x]=if off≤x.last then[x]else[]:=by
 unfold fB;by_cases h:off≤x.last <;> simp[h]
theorem zq{off:Int}{l:List Sg}{k j:Nat}{s:Sg}{x:Batch}(hs:l[k]?=some s)(hx:(em s)[j]?=some x)(hf:off≤x.last):
  (fB off (bsS l))[(fB off (bsS (l.take k))).length+(fB off ((em s).take j)).length]?=some x:=by
 have e1:bsS l=bsS (l.take k)++(((em s).take j++x :: (em s).drop (j+1))++bsS (l.drop (k+1))):=by
  rw[← l8 hx,← iJ,← kx,← l8 hs]
 have e2:fB off (x :: (em s).drop (j+1))=x :: fB off ((em s).drop (j+1)):=by
  unfold fB;rw[List.filter_cons,if_pos (by simp[hf])]
 rw[e1,im,im,im,e2];simp
set_option maxHeartbeats 1000000 in
theorem oV(l:Lg)(off:Int)(A:Option Addr)(c b1 b2:Nat)(G0:Nat→Option Obj)(hl:SlV G0 (SE G0) 2 (.slice A l.segs.length c) l.segs)(hb:smL l.segs)(h1:eT G0 ⟨b1,2,none⟩=some (.slice A l.segs.length c))(h2:eT G0 ⟨b2,0,none⟩=some (.int .i64 off)):
  km Tryz.prog 130 #[.pointer (some ⟨b1,0,none⟩),.pointer (some ⟨b2,0,none⟩)] (fB off (bsS l.segs)) EBx G0:=by
 intro yl I Ix G L hG hn hI hIx hmo hi0 hy L2 D;have hargs:(#[.func (.yield yl) #[] #[]]++#[.pointer (some ⟨b1,0,none⟩),.pointer (some ⟨b2,0,none⟩)]:Array Value)=#[.func (.yield yl) #[] #[],.pointer (some ⟨b1,0,none⟩),.pointer (some ⟨b2,0,none⟩)]:=rfl;rw[hargs];have hat:=fun k j s x=>@zq off l.segs k j s x
 have htot:(fB off (bsS (l.segs.take l.segs.length))).length=(fB off (bsS l.segs)).length:=by rw[List.take_length]
 generalize fB off (bsS l.segs)=T at *;refine(F130.calls (R:=fun _ h=>Gle G h.G∧(I T.length h.G h.L∨∃ i,i < T.length∧Ix i h.G h.L)) (by simp) hn (dF ?_) L2 D).mono ?_;rotate_left
 ·rintro v h' ⟨G',L',rfl,hn',hgg,hr⟩;exact⟨G',L',rfl,hgg,hn',hr⟩
 have e1:=dJ hG h1;have e2:=dJ hG h2;have hlG:=SlSE.le hG hl;obtain⟨A0,c0,he,hc,hmx,hA⟩:=id hlG;cases he;unfold c130;intros;refine gr 10 11 ?_;refine sJ c130r0.eq_1 ?_;refine⟨_,⟨_,rfl,.g e1⟩,?_⟩;refine sI ?_
 (intros;try refine du ?_)
 refine dW (fun e h=>∃ (k:Nat) (G':Nat→Option Obj) (L' Lh:List Kx.Item),(k≤l.segs.length∧Gle G G'∧dO L'∧I (fB off (bsS (l.segs.take k))).length G' L')∧e 13=.int .i64 k∧e 12=.int .i64 l.segs.length∧e 11=.slice A l.segs.length c∧e 0=.func (.yield yl) #[] #[]∧e 2=.pointer (some ⟨b2,0,none⟩)∧h=⟨G',Lh,[]⟩∧L'.Sublist Lh) (fun e h=>l.segs.length - iv (e 13)) ?_ ?_
 ·exact⟨0,G,L,L,⟨Nat.zero_le _,.refl G,hn,hi0⟩,eE,eE,eE,eE,eE,rfl,List.Sublist.refl _⟩
 rintro e h ⟨k,G',L',Lh,⟨hk,hgg,hn',hI'⟩,e13,e12,e11,e00,e22,rfl,hsub⟩;refine dz [0,2,11,12,13] ?_;refine sJ5 @e00 @e22 @e11 @e12 @e13 ?_;intros;refine dx (dD hsub) ?_;have hrm5:=lU (s:=5) hn';intros;refine gr 0 0 ?_;refine sJ c130r1.eq_1 ?_;intros;refine gc ?_;refine sI ?_;refine gb (fun ht=>?_) (fun ht=>?_)
 ·have ht:k < l.segs.length:=by have:=of_decide_eq_true ht;omega
  have hw:=fz k c (by omega) hmx;obtain⟨s,hs⟩:∃ s,l.segs[k]?=some s:=⟨l.segs[k],List.getElem?_eq_getElem (by omega)⟩;have hbs:=hb s (List.mem_of_getElem? hs);have hlG':=SlSE.le hgg hlG;obtain⟨A0,c0,he,-,-,hA'⟩:=hlG';cases he;intros;refine gN ?_;intros;refine gr 15 17 ?_;refine sJ c130r2.eq_1 ?_;refine hA'.x_ld hs rfl rfl ?_;rintro a1 ha1 cs hse;have hscan:=nO s cs G' hse (by omega)
  obtain⟨B,d,rfl,hsb,hsi⟩:=hse;unfold iB at hscan ⊢;refine sJ @hrm5 ?_;intros;refine gr 17 22 ?_;refine sJ c130r3.eq_1 ?_;refine(hscan _ _).mono ?_;rintro r h' ⟨G1,L1,rfl,hg1,u,zc,rfl,hzc,rfl⟩;refine sI ?_;intros;try refine dv ?_
  refine ed (dQ [] _ (by decide) hzc) ?_;rintro h' ⟨G2,rfl,hg2,hv2⟩;have hv2:SlV G2 (BE G2) 10 u (em s):=hv2.le (.refl _) fun _ _ h=>BE.le hg2 h
  have hbt:=yb hs;have hat':=fun j x=>hat k j s x hs
  obtain⟨rr,hsc⟩:=eX s;have hlen:=hsc.len;generalize em s=bs at *;obtain⟨A2,c2,rfl,hc2,hm2,hA2⟩:=hv2;have hgg2:=hgg.trans (hg1.trans hg2);have hI2:=hmo _ _ _ _ (hg1.trans hg2) hI';intros;refine gr 0 0 ?_;refine sJ c130r4.eq_1 ?_;intros
  refine eA (fun e h=>∃ (G':Nat→Option Obj) (L' Lh:List Kx.Item),(Gle G G'∧dO L'∧I (fB off (bsS (l.segs.take (k+1)))).length G' L')∧e 13=.int .i64 k∧e 12=.int .i64 l.segs.length∧e 11=.slice A l.segs.length c∧e 0=.func (.yield yl) #[] #[]∧e 2=.pointer (some ⟨b2,0,none⟩)∧h=⟨G',Lh,[]⟩∧L'.Sublist Lh) ?_ ?_
  ·(intros;try refine du ?_)
   refine dW (fun e h=>∃ (j:Nat) (G':Nat→Option Obj) (L' Lh:List Kx.Item),(j≤bs.length∧Gle G2 G'∧dO L'∧I ((fB off (bsS (l.segs.take k))).length+(fB off (bs.take j)).length) G' L')∧e 24=.int .i64 j∧e 23=.int .i64 bs.length∧e 22=.slice A2 bs.length c2∧e 13=.int .i64 k∧e 12=.int .i64 l.segs.length∧e 11=.slice A l.segs.length c∧e 0=.func (.yield yl) #[] #[]∧e 2=.pointer (some ⟨b2,0,none⟩)∧h=⟨G',Lh,[]⟩∧L'.Sublist Lh) (fun e h=>bs.length - iv (e 24)) ?_ ?_
   ·exact⟨0,G2,L',_,⟨Nat.zero_le _,.refl _,hn',hI2⟩,eE,eE,eE,eE,eE,eE,eE,eE,rfl,.cons _ (List.Sublist.refl _)⟩
   rintro e h ⟨j,G3,L3,Lh,⟨hj,hg3,hn3,hI3⟩,e24,e23,e22',e13,e12,e11,e00,e22,rfl,hsub⟩;refine dz [0,2,11,12,13,22,23,24] ?_
   (try simp -implicitDefEqProofs only[oY,oZ,push_cast,Nat.reduceBEq,Nat.reduceAdd,Nat.reduceSub,Nat.reduceMul,Nat.reduceLT,Nat.reduceLeDiff,Nat.reduceEqDiff,reduceIte,Bool.not_true,Bool.not_false,true_and,and_true,Option.map_some,Option.bind_some,Int.toNat_natCast,e00,e22,e11,e12,e13,e22',e23,e24])
   intros;refine dx (dD hsub) ?_;have hrm9:=lU (s:=9) hn3;have e2':=dJ (hgg2.trans hg3) e2;intros;refine gr 0 0 ?_;refine sJ c130r5.eq_1 ?_;intros;refine gc ?_;refine sI ?_;refine gb (fun ht2=>?_) (fun ht2=>?_)
   ·have ht2:j < bs.length:=by have:=of_decide_eq_true ht2;omega
    have hw2:=fz j c2 (by omega) hm2;obtain⟨x,hx⟩:∃ x,bs[j]?=some x:=⟨bs[j],List.getElem?_eq_getElem (by omega)⟩;have hA3:=hA2.le hg3 (E':=BE G3) fun _ _ h=>BE.le hg3 h
    have hrt:fB off (bs.take (j+1))=fB off (bs.take j)++(if off≤x.last then[x]else[]):=by rw[ew hx,im,wy]
    intros;refine gN ?_;intros;refine gr 26 28 ?_;refine sJ c130r6.eq_1 ?_;refine hA3.x_ld hx rfl rfl ?_;rintro a3 ha3 cs hbe;have hbe0:=hbe;obtain⟨B3,d3,rfl,-⟩:=hbe;unfold eS at hbe0 ⊢;refine sJ @hrm9 ?_;intros;refine gr 29 37 ?_;refine sJ c130r7.eq_1 ?_;refine⟨_,⟨_,rfl,.g e2'⟩,?_⟩;refine sI ?_;refine gd (fun k1=>?_) (fun k1=>?_)
    ·have k1:=of_decide_eq_true k1;rw[if_pos k1]at hrt;have hlen2:(fB off (bsS (l.segs.take k))).length+(fB off (bs.take j)).length+1=(fB off (bsS (l.segs.take k))).length+(fB off (bs.take (j+1))).length:=by rw[hrt,List.length_append];rfl
     have hxT:=hat' j x hx k1;refine sI ?_;refine .inr ⟨yl,rfl,?_⟩;refine iK.ghost (d7 (List.perm_append_comm (l₁:=[_]))) ?_;refine(hy _ x _ G3 L3 hxT (hgg2.trans hg3) ⟨_,hbe0,rfl⟩ hI3 [_] []).mono ?_;rintro v h' ⟨G4,L4,rfl,hg4,hn4,hr⟩;rcases hr with⟨rfl,hr⟩ | ⟨rfl,hr⟩
     ·refine sI ?_;intros;refine gc ?_;refine sI ?_;refine dx (dD (List.sublist_append_left _ _)) ?_;intros;refine gr 38 39 ?_;refine sJ2 c130r8.eq_1 @hw2 ?_
      (intros;try refine du ?_)
      rw[hlen2]at hr;refine eh ⟨⟨j+1,G4,L4,_,⟨by omega,hg3.trans hg4,hn4,hr⟩,eE,eE,eE,eE,eE,eE,eE,eE,rfl,List.Sublist.refl _⟩,?_⟩;refine sI ?_;omega
     ·refine sI ?_;intros;refine gc ?_;refine sI ?_
      (intros;try refine du ?_)
      refine dC (dG L4 rfl (List.sublist_append_left _ _) hn4 ?_);exact⟨hgg2.trans (hg3.trans hg4),.inr ⟨_,(List.getElem?_eq_some_iff.1 hxT).1,hr⟩⟩
    ·have k1:=of_decide_eq_false k1;rw[if_neg k1,List.append_nil]at hrt;refine sI ?_;intros;refine gc ?_;refine sI ?_;refine dx (dD (L':=L3) (.cons _ (List.Sublist.refl _))) ?_;intros;refine gr 38 39 ?_;refine sJ2 c130r8.eq_1 @hw2 ?_
     (intros;try refine du ?_)
     refine eh ⟨⟨j+1,G3,L3,_,⟨by omega,hg3,hn3,by rw[hrt];exact hI3⟩,eE,eE,eE,eE,eE,eE,eE,eE,rfl,List.Sublist.refl _⟩,?_⟩;refine sI ?_;omega
   ·have ht2:j=bs.length:=by have:=of_decide_eq_false ht2;omega
    subst ht2;rw[List.take_length]at hI3;refine dT ?_;refine sI ?_;intros;refine gN ?_;exact eh ⟨G3,L3,_,⟨hgg2.trans hg3,hn3,by rw[hbt,im,List.length_append];exact hI3⟩,eE,eE,eE,eE,eE,rfl,List.Sublist.refl _⟩
  rintro e h ⟨G3,L3,Lh,⟨hg3,hn3,hI3⟩,e13,e12,e11,e00,e22,rfl,hsub⟩;refine dz [0,2,11,12,13] ?_;refine sJ5 @e00 @e22 @e11 @e12 @e13 ?_;intros;refine dx (dD hsub) ?_;intros;refine gr 39 40 ?_;refine sJ2 c130r9.eq_1 @hw ?_
  (intros;try refine du ?_)
  refine eh ⟨⟨k+1,G3,L3,_,⟨by omega,hg3,hn3,hI3⟩,eE,eE,eE,eE,eE,rfl,List.Sublist.refl _⟩,?_⟩;refine sI ?_;omega
 ·have ht:k=l.segs.length:=by have:=of_decide_eq_false ht;omega
  subst ht;rw[htot]at hI';refine dT ?_;refine sI ?_
  (intros;try refine du ?_)
  refine fN ?_;exact⟨[],rfl,⟨G',L',[]⟩,dD (List.Sublist.refl _),hn',hgg,.inl hI'⟩
theorem tA(l:Lg)(off:Int)(cs:List Value)(G:Nat→Option Obj)(hl:LE G l cs)(hb:smL l.segs):
  FnD Tryz.prog 76 #[.agg cs.toArray,.int .i64 off] G (fun G' r=>∃ b1 b2,r=.func (.func 130) #[] #[.pointer (some ⟨b1,0,none⟩),.pointer (some ⟨b2,0,none⟩)]∧km Tryz.prog 130 #[.pointer (some ⟨b1,0,none⟩),.pointer (some ⟨b2,0,none⟩)] (fB off (bsS l.segs)) EBx G'):=by
 obtain⟨A,c,rfl,hsl,hi,hj⟩:=hl;refine F76.fnD (by simp) (dF ?_);unfold c76 ek;intros;refine gr 0 0 ?_;refine sJ c76r0.eq_1 ?_;intro b1 hb1 b2 hb2
 (intros;try refine du ?_)
 refine ed jg ?_;rintro h' ⟨G1,rfl,hg1,f2⟩;refine ed jg ?_;rintro h' ⟨G2,rfl,hg2,f1⟩;have e1:=f1 2 _ rfl;have e2:=dJ hg2 (f2 0 _ rfl);rw[es]at e1 e2;intros;refine gr 5 6 ?_;refine sJ c76r1.eq_1 ?_;intros;refine rV ?_;simp only[push_cast,Nat.reduceBEq];exact⟨b1,b2,rfl,oV l off A c b1 b2 G2 (SlSE.le (hg1.trans hg2) hsl) hb e1 e2⟩
theorem pA(T:List Batch)(gf:Nat)(cap:Array Value)(G:Nat→Option Obj)(hit:km Tryz.prog gf cap T EBx G)(hEn:gL Tryz.prog gf)(hT:T.length≤1000000):
  FnO Tryz.prog 129 #[.slice none 0 0,.func (.func gf) #[] cap] G [] (fun G' L' r=>xH (BE G') 43 10 T L' r):=by
 refine F129.fnO (by simp) dt (dF ?_);unfold c129;intros;refine gr 0 0 ?_;refine sJ c129r0.eq_1 ?_;intro b2 hb2;intros;refine gr 0 0 ?_;refine sJ c129r1.eq_1 ?_
 (intros;try refine du ?_)
 refine dx (dR none 43 10) ?_;refine qA (α:=Batch) (fun k G' L'=>∃ u zc,L'=[.row u 43 10 (T.take k).length zc,.blk b2 [u]]∧Cells (BE G') 10 (T.take k) zc) (fun _ _ _ _=>False) (eE) hEn (dw (dA dt))
  (fun i G G' L hg ⟨u,zc,h1,h2⟩=>⟨u,zc,h1,eG h2 fun _ _ h=>BE.le hg h⟩) hit (fun G x args h=>by obtain⟨_,_,rfl⟩:=h;rfl) ⟨_,[],rfl,.nil⟩ ?_ ?_ ?_
 ·rintro yl k x args G' L' hx hgl ⟨cs,hbe,rfl⟩ ⟨u,zc,rfl,hzc⟩ _;have hkl:k < T.length:=(List.getElem?_eq_some_iff.1 hx).1;have hbe0:=hbe;obtain⟨B,d,rfl,-⟩:=hbe;unfold eS at hbe0 ⊢;refine sI ?_;intros;refine gr 0 0 ?_;refine sJ c129r2.eq_1 ?_;intro bb;refine fN (rc ?_);have htk:T.take (k+1)=T.take k++[x]:=ew hx;have hkl2:(T.take k).length≤T.length:=by rw[List.length_take];omega
  have hkl3:(T.take k).length=k:=by rw[List.length_take];omega
  intros;refine gr 8 12 ?_;refine sJ c129r3.eq_1 ?_;refine⟨_,dE (.tail _ (.tail _ (.head _))) rfl,?_⟩;refine sI ?_;intro bk hbk;refine x8 (L1:=[_]) (L2:=[_]) (E:=BE G') (x:=x) rfl hbe0 rfl (by simp[Value.oneCell']) hzc (by omega) (by omega) fun A' c' zc' hzc'=>?_
  rw[← htk]at hzc' ⊢;refine sI ?_;refine dI [_,_,_] [] rfl (by simp) ⟨rfl,rfl⟩ ?_;refine sI ?_
  (intros;try refine du ?_)
  refine fN (pR _ (.cons _ (.cons _ (List.Sublist.refl _))) (dw (dA dt)) ⟨_,zc',rfl,hzc'⟩)
 ·rintro G' L' dd hgl ⟨u,zc,rfl,hzc⟩ _;rw[List.take_length]at hzc ⊢;refine jS ?_;intros;refine gr 12 13 ?_;refine sJ c129r4.eq_1 ?_;refine⟨_,dE (.tail _ (.head _)) rfl,?_⟩;refine sI ?_
  (intros;try refine du ?_)
  refine dC (dG _ rfl (.cons_cons _ (List.nil_sublist _)) (dw dt) ?_);exact⟨zc,hzc,rfl⟩
 ·rintro ex i G' L' d _ _ h;exact h.elim
theorem tm(T:List Batch)(gf:Nat)(cap:Array Value)(G:Nat→Option Obj)(hit:km Tryz.prog gf cap T EBx G)(hEn:gL Tryz.prog gf)(hT:T.length≤1000000):
  FnO Tryz.prog 75 #[.func (.func gf) #[] cap] G [] (fun G' L' r=>xH (BE G') 43 10 T L' r):=by
 refine F75.fnO (by simp) dt (dF ?_);unfold c75;intros;refine gr 0 0 ?_;refine sJ c75r0.eq_1 ?_;intros;refine gr 3 5 ?_;refine sJ c75r1.eq_1 ?_;refine(pA T gf cap G hit hEn hT _ _).mono ?_;rintro r h' ⟨G1,L',rfl,hg1,zc,hzc,rfl⟩;refine sI ?_
 (intros;try refine du ?_)
 refine dC (dG _ rfl (List.Sublist.refl _) (dw dt) ?_);exact⟨zc,hzc,rfl⟩
theorem yh(l:List Batch):9 * l.length≤(fh l).length:=by
 induction l with
 | nil=>simp
 | cons x l ih =>
  have:=gD x;rw[fg,List.length_append,List.length_cons];omega
theorem AP{l:Lg}(h:fj l=0):(fh (bsS l.segs)).length≤1048576:=by
 obtain⟨h1,h2,h3,h4⟩:=gY h;have h5:=(hX.1 h1).1.2;have h6:=wB h3;have h7:=wr h3;have h9:l.limit * (l.segs.length:Int)≤4096 * 256:=Int.mul_le_mul h5 (by omega) (by omega) (by omega);omega
theorem ui{l:Lg}(off:Int)(h:fj l=0):(fh (fB off (bsS l.segs))).length≤1048576∧(fB off (bsS l.segs)).length≤1000000:=by
 have h1:=AP h;have h2:=xu off (bsS l.segs);have h3:=yh (fB off (bsS l.segs));omega
theorem Av(l:Lg)(cs:List Value)(G:Nat→Option Obj)(hl:LE G l cs)(hb:smL l.segs):FnD Tryz.prog 27 #[.agg cs.toArray] G (fun G' r=>SlV G' (BE G') 10 r (iC l)):=by
 have hl0:=hl;have hchk:=ls l cs G hl hb;obtain⟨A,c,rfl,hsl,hi,hj⟩:=hl;refine F27.fnD (by simp) (dF ?_);unfold c27;unfold ek at hchk hl0 ⊢;intros;refine gr 0 0 ?_;refine sJ c27r0.eq_1 ?_;intros;refine gr 3 5 ?_;refine sJ c27r1.eq_1 ?_;refine(hchk _ _).mono ?_;rintro _ _ ⟨rfl,rfl⟩;refine sI ?_;intros;refine gc ?_;refine sI ?_;refine gb (fun k1=>?_) (fun k1=>?_)
 ·have k1:=of_decide_eq_true k1;intros;refine gr 0 0 ?_;refine sJ c27r2.eq_1 ?_;intros;refine rV ?_;simp only[push_cast,Nat.reduceBEq];rw[iC,if_neg k1];exact slN
 have k1:fj l=0:=by simpa using k1
 intros;refine gN ?_;intros;refine gr 6 11 ?_;refine sJ c27r3.eq_1 ?_;refine(tA l l.start _ G hl0 hb _ _).mono ?_;rintro r h' ⟨G1,rfl,hg1,b1,b2,rfl,hit⟩;refine sI ?_;refine(tm _ _ _ G1 hit F130.enters (ui _ k1).2 _ _).mono ?_;rintro r h' ⟨G2,L',rfl,hg2,zc,hzc,rfl⟩;refine sI ?_;intros;try refine dv ?_
 refine ed (dQ [] _ (by decide) hzc) ?_;rintro h' ⟨G3,rfl,hg3,hv3⟩;intros;refine rV ?_;simp only[push_cast,Nat.reduceBEq];rw[iC,if_pos k1];exact hv3.le (.refl _) fun _ _ h=>BE.le hg3 h
theorem F188:Fun Tryz.prog 188 22 v188 c188 o188:=Fun.mkA Tryz.func188 Tryz.ntmps188
theorem F189:Fun Tryz.prog 189 33 v189 c189 o189:=Fun.mkA Tryz.func189 Tryz.ntmps189
theorem F167:Fun Tryz.prog 167 12 v167 c167 o167:=Fun.mkA Tryz.func167 Tryz.ntmps167
def FK(l:Lg)(off:Int)(p:Lg):Lg × Int:=if fj l=0 then if wV l off=true then(p,0)else(gG,90)else(gG,fj l)
def LgV(p:Lg)(G:Nat→Option Obj)(r:Value):Prop:=∃ cs,r=.agg cs.toArray∧LE G p cs
theorem Fg(l:Lg)(off:Int)(f:Nat)(cap:Array Value)(p:Lg)(cs:List Value)(G:Nat→Option Obj)(hl:LE G l cs)(hb:smL l.segs)(hm:l.segs.length≤1000000)
  (hf:fj l=0→wV l off=true→FnD Tryz.prog f cap G (LgV p)) :
  FnD Tryz.prog 188 #[.agg cs.toArray,.int .i64 off,.func (.func f) #[] cap] G (LgR (FK l off p)):=by
 have hl0:=hl;have hchk:=ls l cs G hl hb;have hbt:=tQ l off cs G hl hb;obtain⟨A,c,rfl,hsl,hi,hj⟩:=hl;refine F188.fnD (by simp) (dF ?_);unfold c188;unfold ek at hchk hbt hl0 ⊢;intros;refine gr 0 0 ?_;refine sJ c188r0.eq_1 ?_;intros;refine gr 9 11 ?_;refine sJ c188r1.eq_1 ?_;refine(hchk _ _).mono ?_;rintro _ _ ⟨rfl,rfl⟩;refine sI ?_;intros;refine gr 11 12 ?_;refine sJ c188r2.eq_1 ?_
 intros;refine gc ?_;refine sI ?_;refine gb (fun k1=>?_) (fun k1=>?_)
 ·have k1:=of_decide_eq_true k1;intros;refine gr 13 15 ?_;refine sJ c188r3.eq_1 ?_;intros;refine rV ?_;simp only[push_cast,Nat.reduceBEq];rw[FK,if_neg k1];exact gS
 have k1:fj l=0:=by simpa using k1
 obtain⟨c1,c2,c3,c4⟩:=gY k1;intros;refine gN ?_;intros;refine gr 15 18 ?_;refine sJ c188r4.eq_1 ?_;refine(hbt c2 hm _ _).mono ?_;rintro _ _ ⟨rfl,rfl⟩;refine sI ?_;intros;refine gc ?_;refine sI ?_;refine gb (fun k2=>?_) (fun k2=>?_)
 ·have k2:wV l off=false:=by simpa using k2
  intros;refine gr 19 20 ?_;refine sJ c188r5.eq_1 ?_;intros;refine rV ?_;simp only[push_cast,Nat.reduceBEq];rw[FK,if_pos k1,if_neg (by rw[k2];simp)];exact gS
 have k2:wV l off=true:=by simpa using k2
 intros;refine gN ?_;intros;refine gr 20 22 ?_;refine sJ c188r6.eq_1 ?_;refine .inl ⟨f,cap,rfl,?_⟩;rw[show(#[]++cap:Array Value)=cap by simp];refine(hf k1 k2 _ _).mono ?_;rintro r h' ⟨G1,rfl,hg1,cs,rfl,hle⟩;obtain⟨A1,c1,rfl,hs1⟩:=hle;unfold ek;refine sI ?_;intros;refine rV ?_;simp only[push_cast,Nat.reduceBEq];rw[FK,if_pos k1,if_pos k2];exact⟨_,rfl,A1,c1,rfl,hs1⟩
def fE{α:Type}(p:α→Bool):List α→Nat→Int
 | [],_=>-1
 | x :: l,i=>if p x=true then(i:Int)else fE p l (i+1)
theorem my{α:Type}{p:α→Bool}{l:List α}{k:Nat}{x:α}(h:l[k]?=some x)(i:Nat):fE p (l.drop k) i=if p x=true then(i:Int)else fE p (l.drop (k+1)) (i+1):=by
 obtain⟨h1,h2⟩:=List.getElem?_eq_some_iff.1 h;rw[List.drop_eq_getElem_cons h1,h2,fE]
theorem BD{P:Program}{f:FuncId}{args:Array Value}{G:Nat→Option Obj}{s:Sg}(hf:FnO P f args G [] (fun _ L' r=>uV s L' r)):FnD P f args G (fun G' r=>∃ A c,r=.agg #[.int .i64 s.base,.slice A s.bytes.length c]∧SB G' (.slice A s.bytes.length c) s.bytes) :=
 FnO.fnD (L1:=[]) (oD hf) fun G' L' v ⟨A,c,zc,h1,_,h2,h3⟩ _ L D=>by
  subst h2;exact(kn (by decide) h3).mono fun h' ⟨G2,e1,e2,e3⟩=>⟨G2,e1,e2,A,c,h1,e3⟩
theorem u9{l:List Sg}{k:Nat}{s:Sg}(to:Int)(h:l[k]?=some s):oo (l.take (k+1)) to=oo (l.take k) to++if s.base < to then[tR s to]else[]:=by
 unfold oo;rw[ew h,List.filter_append,List.map_append];congr 1;by_cases hh:s.base < to <;> simp[hh]
theorem oF(l:List Sg)(to:Int):(oo l to).length≤l.length:=by
 unfold oo;rw[List.length_map];exact List.length_filter_le _ _
theorem pF(l:Lg)(to:Int)(A:Option Addr)(c b2 b3:Nat)(G:Nat→Option Obj)(hsl:SlV G (SE G) 2 (.slice A l.segs.length c) l.segs)(hi:I64 l.limit)(hj:I64 l.start)(hb:smL l.segs)(hm:l.segs.length≤1000)(hto:I64 to)
  (h2:∀ j u,([.int .i64 l.limit,.int .i64 l.start,.slice A l.segs.length c]:List Value)[j]?=some u→eT G (Addr.add ⟨b2,0,none⟩ j)=some u) (h3:eT G ⟨b3,0,none⟩=some (.int .i64 to)) :
  FnD Tryz.prog 189 #[.pointer (some ⟨b2,0,none⟩),.pointer (some ⟨b3,0,none⟩)] G (LgV ⟨l.limit,l.start,qt l.segs to⟩):=by
 have hsl0:=hsl;have h22:=h2 2 _ rfl;rw[es]at h22;obtain⟨A0,c0,he,hc,hmx,hA⟩:=hsl;cases he;refine F189.fnD (by simp) (dF ?_);unfold c189;intros;refine gr 0 0 ?_;refine sJ c189r0.eq_1 ?_;intros;refine gr 0 0 ?_;refine sJ c189r1.eq_1 ?_;intros;refine gr 6 7 ?_;refine sJ c189r2.eq_1 ?_;refine⟨_,⟨_,rfl,.g h22⟩,?_⟩;refine sI ?_;intros;refine dx (dR none 120 2) ?_
 refine eA (fun e h=>∃ (G':Nat→Option Obj) (u:Value) (zc:List Value),(Gle G G'∧Cells (SE G') 2 (oo l.segs to) zc)∧e 3=u∧e 0=.pointer (some ⟨b2,0,none⟩)∧e 1=.pointer (some ⟨b3,0,none⟩)∧h=⟨G',[.row u 120 2 (oo l.segs to).length zc,.reg 2 [.int .i64 0,.int .i64 0,.slice none 0 0]],[]⟩) ?_ ?_
 ·(intros;try refine du ?_)
  refine dW (fun e h=>∃ (k:Nat) (G':Nat→Option Obj) (u:Value) (zc:List Value),(k≤l.segs.length∧Gle G G'∧Cells (SE G') 2 (oo (l.segs.take k) to) zc)∧e 9=.int .i64 k∧e 8=.int .i64 l.segs.length∧e 7=.slice A l.segs.length c∧e 3=u∧e 0=.pointer (some ⟨b2,0,none⟩)∧e 1=.pointer (some ⟨b3,0,none⟩)∧h=⟨G',[.row u 120 2 (oo (l.segs.take k) to).length zc,.reg 2 [.int .i64 0,.int .i64 0,.slice none 0 0]],[]⟩) (fun e h=>l.segs.length - iv (e 9)) ?_ ?_
  ·exact⟨0,G,.slice none 0 0,[],⟨Nat.zero_le _,.refl _,.nil⟩,eE,eE,eE,eE,eE,eE,rfl⟩
  rintro e h ⟨k,G',u,zc,⟨hk,hg',hzc⟩,e9,e8,e7,e3,e0,e1,rfl⟩;refine dz [0,1,3,7,8,9] ?_;refine sJ6 @e0 @e1 @e3 @e7 @e8 @e9 ?_;intros;refine gr 0 0 ?_;refine sJ c189r3.eq_1 ?_;intros;refine gc ?_;refine sI ?_;refine gb (fun ht=>?_) (fun ht=>?_)
  ·have ht:k < l.segs.length:=by have:=of_decide_eq_true ht;omega
   have hw:=fz k c (by omega) hmx;obtain⟨s,hs⟩:∃ s,l.segs[k]?=some s:=⟨l.segs[k],List.getElem?_eq_getElem (by omega)⟩;have hbs:=hb s (List.mem_of_getElem? hs);have htr:=u9 to hs;have hA':=hA.le hg' (E':=SE G') fun _ _ h=>SE.le hg' h
   have h3':=dJ hg' h3;have hlen:=oF (l.segs.take k) to;rw[List.length_take]at hlen;intros;refine gN ?_;intros;refine gr 11 13 ?_;refine sJ c189r4.eq_1 ?_;refine hA'.x_ld hs rfl rfl ?_;rintro a1 ha1 cs hse;have hcut:=BD (Fu s to cs G' hse (by omega) hto);obtain⟨B,d,rfl,hsb,hsi⟩:=hse;unfold iB at hcut ⊢;refine sI ?_;intros;refine gr 14 16 ?_;refine sJ c189r5.eq_1 ?_;refine⟨_,⟨_,rfl,.g h3'⟩,?_⟩
   refine sI ?_;intros;refine gc ?_;refine sI ?_;refine gb (fun k1=>?_) (fun k1=>?_)
   ·have k1:=of_decide_eq_true k1;rw[if_pos k1]at htr;intros;refine gr 17 23 ?_;refine sJ c189r6.eq_1 ?_;refine⟨_,⟨_,rfl,.g h3'⟩,?_⟩;refine sI ?_;refine(hcut _ _).mono ?_;rintro r h' ⟨G2,rfl,hg2,A2,c2,rfl,hs2⟩;refine sI ?_;intro bk hbk
    refine x8 (L1:=[_]) (L2:=[_]) (E:=SE G2) (x:=tR s to) rfl ⟨A2,c2,rfl,hs2,hsi⟩ rfl (by simp[Value.oneCell']) (eG hzc fun _ _ h=>SE.le hg2 h) (by omega) (by omega) fun A' c' zc' hzc'=>?_
    rw[← htr]at hzc' ⊢;refine sI ?_;intros;refine dx (dD (.cons _ (.cons _ (List.Sublist.refl _)))) ?_;intros;refine gr 23 24 ?_;refine sJ2 c189r7.eq_1 @hw ?_
    (intros;try refine du ?_)
    refine eh ⟨⟨k+1,G2,_,zc',⟨by omega,hg'.trans hg2,hzc'⟩,eE,eE,eE,eE,eE,eE,rfl⟩,?_⟩;refine sI ?_;omega
   ·have k1:=of_decide_eq_false k1;rw[if_neg k1,List.append_nil]at htr;intros;refine gN ?_;refine dx (dD (L':=[.row u 120 2 (oo (l.segs.take k) to).length zc,.reg 2 [.int .i64 0,.int .i64 0,.slice none 0 0]]) (.cons _ (List.Sublist.refl _))) ?_;intros;refine gr 23 24 ?_;refine sJ2 c189r7.eq_1 @hw ?_
    (intros;try refine du ?_)
    rw[← htr]at hzc ⊢;refine eh ⟨⟨k+1,G',_,zc,⟨by omega,hg',hzc⟩,eE,eE,eE,eE,eE,eE,rfl⟩,?_⟩;refine sI ?_;omega
  ·have ht:k=l.segs.length:=by have:=of_decide_eq_false ht;omega
   subst ht;rw[List.take_length]at hzc ⊢;refine dT ?_;refine sI ?_;intros;refine gN ?_;exact eh ⟨G',u,zc,⟨hg',hzc⟩,eE,eE,eE,rfl⟩
 rintro e h ⟨G1,u,zc,⟨hg1,hzc⟩,e3,e0,e1,rfl⟩;refine dz [0,1,3] ?_;refine sJ3 @e0 @e1 @e3 ?_;intros;intros;try refine dv ?_
 refine ed (gK (.head _)) ?_;rintro h' ⟨rfl,A2,c2,rfl,-,-⟩
 refine eA (fun e h=>∃ (A2:Option Addr) (c2:Nat) (zc:List Value) (Lh:List Kx.Item),Cells (SE G1) 2 (qt l.segs to) zc∧e 3=.slice A2 (qt l.segs to).length c2∧e 0=.pointer (some ⟨b2,0,none⟩)∧e 1=.pointer (some ⟨b3,0,none⟩)∧h=⟨G1,Lh,[]⟩∧([.row (.slice A2 (qt l.segs to).length c2) 120 2 (qt l.segs to).length zc,.reg 2 [.int .i64 0,.int .i64 0,.slice none 0 0]]:List Kx.Item).Sublist Lh) ?_ ?_
 ·intros;refine gr 24 26 ?_;refine sJ c189r8.eq_1 ?_;intros;refine gc ?_;refine sI ?_;refine gb (fun k1=>?_) (fun k1=>?_)
  ·have k1:oo l.segs to=[]:=List.eq_nil_of_length_eq_zero (by have:=of_decide_eq_true k1;omega);have ht:qt l.segs to=[⟨to,[]⟩]:=by rw[qt,if_pos k1]
   rw[ht];intros;refine gr 27 30 ?_;refine sJ c189r9.eq_1 ?_;refine⟨_,⟨_,rfl,.g (dJ hg1 h3)⟩,?_⟩;refine sI ?_;intro bk hbk;refine sI ?_
   (intros;try refine du ?_)
   exact eh ⟨_,_,_,_,Cells.one (E:=SE G1) (x:=⟨to,[]⟩) ⟨none,0,rfl,SB.nil,hto⟩ rfl,eE,eE,eE,rfl,.cons_cons _ (.cons _ (List.Sublist.refl _))⟩
  ·have k1:¬ oo l.segs to=[]:=fun h=>by rw[h]at k1;simp at k1
   have ht:qt l.segs to=oo l.segs to:=by rw[qt,if_neg k1]
   rw[ht];intros;refine gN ?_;exact eh ⟨_,_,_,_,hzc,eE,eE,eE,rfl,List.Sublist.refl _⟩
 rintro e h ⟨A2,c2,zc,Lh,hzc,e3,e0,e1,rfl,hsub⟩;refine dz [0,1,3] ?_;refine sJ3 @e0 @e1 @e3 ?_;intros;refine dx (dD hsub) ?_;refine ed (dQ [] _ (by decide) hzc) ?_;rintro h' ⟨G2,rfl,hg2,hv2⟩;have hg02:=hg1.trans hg2;intros;refine gr 30 33 ?_;refine sJ c189r10.eq_1 ?_;refine⟨_,⟨_,[.int .i64 l.limit,.int .i64 l.start,.slice A l.segs.length c],rfl,rfl,rfl,fun j u hu=>.g (dJ hg02 (h2 j u hu))⟩,?_⟩
 refine sI ?_;refine(ly _ _ _ _ _ _ _ _ _ _ _).mono ?_;rintro _ _ ⟨rfl,rfl⟩;refine sI ?_;intros;refine rV ?_;simp only[push_cast,Nat.reduceBEq];exact⟨_,rfl,A2,c2,rfl,hv2.le (.refl _) fun _ _ h=>SE.le hg2 h,hi,hj⟩
theorem ra(l:Lg)(to:Int)(cs:List Value)(G:Nat→Option Obj)(hl:LE G l cs)(hb:smL l.segs)(hm:l.segs.length≤1000)(hto:I64 to):
  FnD Tryz.prog 167 #[.agg cs.toArray,.int .i64 to] G (LgR (lZ l to)):=by
 have hl0:=hl;obtain⟨A,c,rfl,hsl,hi,hj⟩:=hl;refine F167.fnD (by simp) (dF ?_);unfold c167;unfold ek at hl0 ⊢;intros;refine gr 0 0 ?_;refine sJ c167r0.eq_1 ?_;intro b2 hb2 b3 hb3
 (intros;try refine du ?_)
 refine ed (ec [_] _) ?_;rintro h' ⟨G1,rfl,hg1,f3⟩;refine ed (ec [_] _) ?_;rintro h' ⟨G2,rfl,hg2,f2⟩;have e3:=dJ hg2 (f3 0 _ rfl);rw[es]at e3;have hg02:=hg1.trans hg2;intros;refine gr 6 12 ?_;refine sJ c167r1.eq_1 ?_;refine⟨_,⟨_,[.int .i64 l.limit,.int .i64 l.start,.slice A l.segs.length c],rfl,rfl,rfl,fun j u hu=>.g (f2 j u hu)⟩,?_⟩;refine sI ?_;refine⟨_,⟨_,rfl,.g e3⟩,?_⟩;refine sI ?_
 refine(Fg l to 189 _ _ _ G2 (LE.le hg02 hl0) hb (by omega) (fun _ _=>pF l to A c b2 b3 G2 (SlSE.le hg02 hsl) hi hj hb hm hto f2 e3) _ _).mono ?_;rintro r h' ⟨G3,rfl,hg3,cs,rfl,hle⟩;have hle0:=hle;obtain⟨A3,c3,rfl,hs3⟩:=hle;unfold ek;refine sI ?_;intros;refine rV ?_;simp only[push_cast,Nat.reduceBEq];exact⟨_,rfl,hle0⟩
theorem F89:Fun Tryz.prog 89 94 v89 c89 o89:=Fun.mkA Tryz.func89 Tryz.ntmps89
def ot:Option Sg→List Sg→Bool
 | _,[]=>true
 | p,s :: ss=>iT p s && ot (some s) ss
theorem pK:∀ (l:List Sg) (p:Option Sg) (s:Sg),fX p (l++[s])=fX p l++(if (ot p l && iT (ko p l) s)=true then[(lj s).1]else[])∧ot p (l++[s])=(ot p l && iT (ko p l) s)
 | [],p,s=>by simp[fX,ot,ko]
 | t :: l,p,s=>by
  obtain⟨h1,h2⟩:=pK l (some t) s;rw[List.cons_append,fX,fX,ot,ot,ko];by_cases hk:iT p t=true
  ·rw[if_pos hk,if_pos hk,h1,h2,hk];simp
  ·rw[if_neg hk,if_neg hk,h2];have:iT p t=false:=by simpa using hk
   simp[this]
theorem CI{l:List Sg}{k:Nat}{s:Sg}(h:l[k]?=some s):fX none (l.take (k+1))=fX none (l.take k)++(if (ot none (l.take k) && iT (ko none (l.take k)) s)=true then[(lj s).1]else[])∧ot none (l.take (k+1))=(ot none (l.take k) && iT (ko none (l.take k)) s):=by
 rw[ew h];exact pK _ _ _
theorem qy:∀ (l:List Sg) (p:Option Sg),(fX p l).length≤l.length∧(ot p l=true↔(fX p l).length=l.length)
 | [],p=>by simp[fX,ot]
 | s :: l,p=>by
  obtain⟨h1,h2⟩:=qy l (some s);rw[fX,ot];by_cases hk:iT p s=true
  ·rw[if_pos hk,hk,Bool.true_and];simp only[List.length_cons];exact⟨by omega,h2.trans (by omega)⟩
  ·have:iT p s=false:=by simpa using hk
   rw[if_neg hk,this];simp
theorem vl(l:List Sg)(k:Nat):gl (l.take k)≤gl l:=by
 conv=>rhs;rw[← List.take_append_drop k l,kO]
 omega
theorem rT:∀ (l:List Sg) (p:Option Sg),gl (fX p l)≤gl l
 | [],p=>Nat.le_refl _
 | s :: l,p=>by
  rw[fX];split
  ·have h1:=rT l (some s);have h2:(lj s).1.bytes.length≤s.bytes.length:=by
    show(s.bytes.take _).length≤_;rw[List.length_take];omega
   simp only[gl];omega
  ·simp[gl]
theorem AI{l:List Sg}(h:smL l):gl l≤100000 * l.length:=by
 induction l with
 | nil=>simp[gl]
 | cons s l ih =>
  have h1:=ih fun t ht=>h t (.tail _ ht)
  have h2:=h s (.head _);simp only[gl,List.length_cons];omega
set_option maxHeartbeats 1000000 in
theorem nq(l:Lg)(cs:List Value)(G:Nat→Option Obj)(hl:LE G l cs)(hb:smL l.segs)(hm:l.segs.length≤1000):
  FnD Tryz.prog 89 #[.agg cs.toArray] G (LgR (ia l)):=by
 obtain⟨A,c,rfl,hsl,hi,hj⟩:=hl;have hsl0:=hsl;obtain⟨A0,c0,he,hc,hmx,hA⟩:=hsl;cases he;refine F89.fnD (by simp) (dF ?_);unfold c89 ek;intros;refine gr 0 0 ?_;refine sJ c89r0.eq_1 ?_;intros;intros;try refine dv ?_
 refine eA (fun e h=>(mr l.limit l.start=true∧m7 l=true)∧e 3=.int .i64 0∧h=⟨G,[.reg 2 [.int .i64 0,.int .i64 0,.slice none 0 0],.reg 1 [.int .i64 l.limit,.int .i64 l.start,.slice A l.segs.length c]],[]⟩) ?_ ?_
 ·intros;refine gr 9 28 ?_;refine sJ c89r1.eq_1 ?_;refine(xA _ _ _ _ _).mono ?_;rintro _ _ ⟨rfl,rfl⟩;refine sI ?_;refine gd (fun k1=>?_) (fun k1=>?_)
  ·have k1:mr l.limit l.start=false:=by simpa using k1
   refine sI ?_;intros;refine gc ?_;refine sI ?_;intros;refine gr 29 30 ?_;refine sJ c89r2.eq_1 ?_;intros;refine rV ?_;simp only[push_cast,Nat.reduceBEq];rw[ia,if_neg (by rw[k1];simp)];exact gS
  have k1:mr l.limit l.start=true:=by simpa using k1
  refine sI ?_;refine gd (fun k2=>?_) (fun k2=>?_)
  ·have k2:l.segs=[]:=List.eq_nil_of_length_eq_zero (by have:=of_decide_eq_true k2;omega);have hh:m7 l=false:=by unfold m7;rw[k2]
   refine sI ?_;intros;refine gc ?_;refine sI ?_;intros;refine gr 29 30 ?_;refine sJ c89r2.eq_1 ?_;intros;refine rV ?_;simp only[push_cast,Nat.reduceBEq];rw[ia,if_neg (by rw[hh];simp)];exact gS
  have k2:¬ l.segs=[]:=fun h=>by rw[h]at k2;simp at k2
  obtain⟨s0,ss,hss⟩:=List.exists_cons_of_ne_nil k2;have hs0:l.segs[0]?=some s0:=by rw[hss];rfl
  have hh:m7 l=inO s0.base:=by unfold m7;rw[hss]
  refine sI ?_;refine hA.x_lf (k:=0) (u:=.int .i64 s0.base) hs0 rfl rfl (fun cs h=>by obtain⟨_,_,rfl,-⟩:=h;rfl) fun a ha=>?_
  refine sI ?_;refine(mR _ _ _ _).mono ?_;rintro _ _ ⟨rfl,rfl⟩;refine sI ?_;intros;refine gc ?_;refine sI ?_;refine gb (fun k3=>?_) (fun k3=>?_)
  ·have k3:inO s0.base=false:=by simpa using k3
   intros;refine gr 29 30 ?_;refine sJ c89r2.eq_1 ?_;intros;refine rV ?_;simp only[push_cast,Nat.reduceBEq];rw[ia,if_neg (by rw[hh,k3];simp)];exact gS
  ·have k3:inO s0.base=true:=by simpa using k3
   intros;refine gN ?_;exact eh ⟨⟨k1,by rw[hh,k3]⟩,eE,rfl⟩
 rintro e h ⟨⟨k1,k2⟩,e3,rfl⟩;refine dz [3] ?_;refine sJ @e3 ?_;have hrec:ia l=(⟨l.limit,l.start,fX none l.segs⟩,(gl l.segs:Int) - (gl (fX none l.segs):Int)):=by rw[ia,if_pos ⟨k1,k2⟩]
 rw[hrec];have hsm:=AI hb;intros;intros;refine gr 30 32 ?_;refine sJ c89r3.eq_1 ?_;refine(ly _ _ _ _ _ _ _ _ _ _ _).mono ?_;rintro _ _ ⟨rfl,rfl⟩;refine sI ?_;intros;refine gr 0 0 ?_;refine sJ c89r4.eq_1 ?_;intros;intros;try refine dv ?_
 refine dx (dR none 120 2) ?_
 refine eA (fun e h=>∃ (G':Nat→Option Obj) (A2:Option Addr) (c2:Nat) (zc:List Value),(Gle G G'∧Cells (SE G') 2 (fX none l.segs) zc)∧e 3=.int .i64 ((gl l.segs:Int) - (gl (fX none l.segs):Int))∧h=⟨G',[.row (.slice A2 (fX none l.segs).length c2) 120 2 (fX none l.segs).length zc,.reg 2 [.int .i64 l.limit,.int .i64 l.start,.slice A2 (fX none l.segs).length c2],.reg 1 [.int .i64 l.limit,.int .i64 l.start,.slice A l.segs.length c]],[]⟩) ?_ ?_
 ·(intros;try refine du ?_)
  refine dW (fun e h=>∃ (k:Nat) (G':Nat→Option Obj) (A2:Option Addr) (c2:Nat) (zc:List Value),(k≤l.segs.length∧Gle G G'∧Cells (SE G') 2 (fX none (l.segs.take k)) zc)∧e 35=.int .i64 k∧e 34=.int .i64 l.segs.length∧e 33=.slice A l.segs.length c∧e 3=.int .i64 ((gl (l.segs.take k):Int) - (gl (fX none (l.segs.take k)):Int))∧h=⟨G',[.row (.slice A2 (fX none (l.segs.take k)).length c2) 120 2 (fX none (l.segs.take k)).length zc,.reg 2 [.int .i64 l.limit,.int .i64 l.start,.slice A2 (fX none (l.segs.take k)).length c2],.reg 1 [.int .i64 l.limit,.int .i64 l.start,.slice A l.segs.length c]],[]⟩) (fun e h=>l.segs.length - iv (e 35)) ?_ ?_
  ·exact⟨0,G,none,0,[],⟨Nat.zero_le _,.refl _,.nil⟩,eE,eE,eE,by refine sI ?_;rfl,rfl⟩
  rintro e h ⟨k,G',A2,c2,zc,⟨hk,hg',hzc⟩,e35,e34,e33,e3,rfl⟩;refine dz [3,33,34,35] ?_;refine sJ4 @e3 @e33 @e34 @e35 ?_;intros;refine gr 0 0 ?_;refine sJ c89r5.eq_1 ?_;intros;refine gc ?_;refine sI ?_;refine gb (fun ht=>?_) (fun ht=>?_)
  ·have ht:k < l.segs.length:=by have:=of_decide_eq_true ht;omega
   have hw:=fz k c (by omega) hmx;obtain⟨s,hs⟩:∃ s,l.segs[k]?=some s:=⟨l.segs[k],List.getElem?_eq_getElem (by omega)⟩;have hbs:=hb s (List.mem_of_getElem? hs);obtain⟨hr1,hr2⟩:=CI hs;obtain⟨hle,hiff⟩:=qy (l.segs.take k) none;have hlk:(l.segs.take k).length=k:=by rw[List.length_take];omega
   rw[hlk]at hle hiff;have hz1:gl (l.segs.take (k+1))=gl (l.segs.take k)+s.bytes.length:=by rw[ew hs,kO];simp[gl]
   have hz2:=vl l.segs (k+1);have hz3:=rT (l.segs.take k) none;have hA':=hA.le hg' (E':=SE G') fun _ _ h=>SE.le hg' h
   have hw2:IntKind.i64.wrap ((gl (l.segs.take k):Int) - (gl (fX none (l.segs.take k)):Int)+(s.bytes.length:Int))=(gl (l.segs.take k):Int) - (gl (fX none (l.segs.take k)):Int)+(s.bytes.length:Int):=by rw[dU] <;> omega
   intros;refine gN ?_;intros;refine gr 37 40 ?_;refine sJ c89r6.eq_1 ?_;refine hA'.x_ld hs rfl rfl ?_;rintro a1 ha1 cs hse;have hse0:=hse;have hfix:=mO (Ds s cs G' hse (by omega));obtain⟨B,d,rfl,hsb,hsi⟩:=hse;unfold iB at hfix hse0 ⊢;refine sI ?_;intros;refine gr 40 45 ?_;refine sJ2 c89r7.eq_1 @hw2 ?_;intros;intros;try refine dv ?_
   refine eA (fun e h=>(ot none (l.segs.take k) && iT (ko none (l.segs.take k)) s)=true∧e 35=.int .i64 k∧e 34=.int .i64 l.segs.length∧e 33=.slice A l.segs.length c∧e 3=.int .i64 ((gl (l.segs.take k):Int) - (gl (fX none (l.segs.take k)):Int)+(s.bytes.length:Int))∧h=⟨G',[.reg 5 [.int .i64 s.base,.slice B s.bytes.length d],.row (.slice A2 (fX none (l.segs.take k)).length c2) 120 2 (fX none (l.segs.take k)).length zc,.reg 2 [.int .i64 l.limit,.int .i64 l.start,.slice A2 (fX none (l.segs.take k)).length c2],.reg 1 [.int .i64 l.limit,.int .i64 l.start,.slice A l.segs.length c]],[]⟩) ?_ ?_
   ·have hd50:decide (((fX none (l.segs.take k)).length:Int) < (k:Int))=!ot none (l.segs.take k):=by
     by_cases h:ot none (l.segs.take k)=true
     ·rw[h];exact decide_eq_false (by have:=hiff.1 h;omega)
     ·have h2:ot none (l.segs.take k)=false:=by simpa using h
      rw[h2];exact decide_eq_true (by have:¬ (fX none (l.segs.take k)).length=k:=fun hh=>h (hiff.2 hh);omega)
    (intros;try refine du ?_);refine o3 _ (List.Sublist.refl _) (by decide) ?_;refine sJ2 c89r8.eq_1 @hd50 ?_
    refine gx (fun k3=>?_) (fun k3=>?_)
    ·have k3:ot none (l.segs.take k)=false:=by simpa using k3
     have hr1':fX none (l.segs.take (k+1))=fX none (l.segs.take k):=by rw[hr1,k3];simp
     have hq:(gl (l.segs.take k):Int) - (gl (fX none (l.segs.take k)):Int)+(s.bytes.length:Int)=(gl (l.segs.take (k+1)):Int) - (gl (fX none (l.segs.take (k+1))):Int):=by rw[hr1',hz1];push_cast;omega
     refine sI ?_;intros;refine gc ?_;refine sI ?_;rw[← hr1']at hzc hq ⊢;refine dT ?_;refine sI ?_;refine dx (dD (.cons _ (List.Sublist.refl _))) ?_;intros;refine gr 91 92 ?_;refine sJ2 c89r12.eq_1 @hw ?_
     (intros;try refine du ?_)
     refine eh ⟨⟨k+1,G',A2,c2,zc,⟨by omega,hg',hzc⟩,eE,eE,eE,(eJ @hq),rfl⟩,?_⟩;refine sI ?_;omega
    have k3:ot none (l.segs.take k)=true:=by simpa using k3
    rw[k3,Bool.true_and]at hr1 ⊢;refine sI ?_;refine gx (fun k4=>?_) (fun k4=>?_)
    ·have k4:0 < k:=by have:=of_decide_eq_true k4;omega
     have hw1:IntKind.i64.wrap ((k:Int) - 1)=(k:Int) - 1:=by unfold maxLen at hmx;rw[dU] <;> omega
     obtain⟨p,hp⟩:∃ p,l.segs[k - 1]?=some p:=⟨l.segs[k - 1],List.getElem?_eq_getElem (by omega)⟩;have hbp:=hb p (List.mem_of_getElem? hp);rw[pE k4 hp]at hr1 ⊢;refine sJ @hw1 ?_;refine hA'.y_ld hp (by omega) rfl ?_;rintro a2 ha2 cs2 hpe;have hwh:=sL p cs2 G' hpe (by omega);obtain⟨B2,d2,rfl,-⟩:=hpe;unfold iB at hwh ⊢;refine sI ?_;refine(hwh _ _).mono ?_;rintro _ _ ⟨rfl,rfl⟩;refine sI ?_
     refine gx (fun k5=>?_) (fun k5=>?_)
     ·have k5:fe p=false:=by simpa using k5
      have hkp:iT (some p) s=false:=by simp[iT,k5]
      have hr1':fX none (l.segs.take (k+1))=fX none (l.segs.take k):=by rw[hr1,hkp];simp
      have hq:(gl (l.segs.take k):Int) - (gl (fX none (l.segs.take k)):Int)+(s.bytes.length:Int)=(gl (l.segs.take (k+1)):Int) - (gl (fX none (l.segs.take (k+1))):Int):=by rw[hr1',hz1];push_cast;omega
      refine sI ?_;intros;refine gc ?_;refine sI ?_;rw[← hr1']at hzc hq ⊢;refine dT ?_;refine sI ?_;refine dx (dD (.cons _ (List.Sublist.refl _))) ?_;intros;refine gr 91 92 ?_;refine sJ2 c89r12.eq_1 @hw ?_
      (intros;try refine du ?_)
      refine eh ⟨⟨k+1,G',A2,c2,zc,⟨by omega,hg',hzc⟩,eE,eE,eE,(eJ @hq),rfl⟩,?_⟩;refine sI ?_;omega
     have k5:fe p=true:=by simpa using k5
     have hkp:iT (some p) s=sv p s:=by simp[iT,k5]
     refine sJ @hw1 ?_;refine hA'.y_ld hp (by omega) rfl ?_;rintro a3 ha3 cs3 hpe3;have hfo:=nr p s cs3 _ G' hpe3 hse0 (by omega);obtain⟨B3,d3,rfl,-⟩:=hpe3;unfold iB at hfo ⊢;refine sI ?_;refine(hfo _ _).mono ?_;rintro _ _ ⟨rfl,rfl⟩;refine sI ?_;intros;refine gc ?_;refine sI ?_;refine gb (fun k6=>?_) (fun k6=>?_)
     ·have k6:sv p s=false:=by simpa using k6
      rw[k6]at hkp;have hr1':fX none (l.segs.take (k+1))=fX none (l.segs.take k):=by rw[hr1,hkp];simp
      have hq:(gl (l.segs.take k):Int) - (gl (fX none (l.segs.take k)):Int)+(s.bytes.length:Int)=(gl (l.segs.take (k+1)):Int) - (gl (fX none (l.segs.take (k+1))):Int):=by rw[hr1',hz1];push_cast;omega
      rw[← hr1']at hzc hq ⊢;refine dT ?_;refine sI ?_;refine dx (dD (.cons _ (List.Sublist.refl _))) ?_;intros;refine gr 91 92 ?_;refine sJ2 c89r12.eq_1 @hw ?_
      (intros;try refine du ?_)
      refine eh ⟨⟨k+1,G',A2,c2,zc,⟨by omega,hg',hzc⟩,eE,eE,eE,(eJ @hq),rfl⟩,?_⟩;refine sI ?_;omega
     ·have k6:sv p s=true:=by simpa using k6
      rw[k6]at hkp;intros;refine gN ?_;exact eh ⟨hkp,eE,eE,eE,eE,rfl⟩
    ·have k4:k=0:=by have:=of_decide_eq_false k4;omega
     have hkp:iT (ko none (l.segs.take k)) s=true:=by rw[k4];rfl
     refine sI ?_;intros;refine gc ?_;refine sI ?_;intros;refine gN ?_;exact eh ⟨hkp,eE,eE,eE,eE,rfl⟩
   rintro e h ⟨hkeep,e35,e34,e33,e3,rfl⟩;refine dz [3,33,34,35] ?_;refine sJ4 @e3 @e33 @e34 @e35 ?_;rw[hkeep,if_pos rfl]at hr1;have hgl:(lj s).1.bytes.length≤s.bytes.length:=by
    show(s.bytes.take _).length≤_;rw[List.length_take];omega
   have hw3:IntKind.i64.wrap ((gl (l.segs.take k):Int) - (gl (fX none (l.segs.take k)):Int)+(s.bytes.length:Int) - ((lj s).1.bytes.length:Int))=(gl (l.segs.take (k+1)):Int) - (gl (fX none (l.segs.take (k+1))):Int):=by
    rw[hr1,kO,hz1];simp only[gl];rw[dU] <;> omega
   generalize (gl (l.segs.take k):Int) - (gl (fX none (l.segs.take k)):Int)+(s.bytes.length:Int)=D0 at *;have hfb:(lj s).1.base=s.base:=rfl;generalize lj s=q at *;obtain⟨s',er⟩:=q;dsimp only at hr1 hgl hw3 hfb;intros;refine gr 75 80 ?_;refine sJ c89r9.eq_1 ?_;refine(hfix _ _).mono ?_;rintro r h' ⟨G2,rfl,hg2,A3,c3,rfl,hs3⟩;refine sI ?_;intros;refine gr 80 85 ?_;refine sJ2 c89r10.eq_1 @hw3 ?_
   have hzc2:Cells (SE G2) 2 (fX none (l.segs.take k)) zc:=eG hzc fun _ _ h=>SE.le hg2 h
   have hse3:SE G2 s' [.int .i64 s'.base,.slice A3 s'.bytes.length c3]:=⟨A3,c3,rfl,hs3,by rw[hfb];exact hsi⟩;intros;refine gr 86 90 ?_;refine sJ c89r11.eq_1 ?_;intro bk hbk;refine x8 (L1:=[_,_]) (L2:=[_,_]) (E:=SE G2) (x:=s') rfl hse3 rfl (by simp[Value.oneCell']) hzc2 (by omega) (by omega) fun A' c' zc' hzc'=>?_
   rw[← hr1]at hzc' ⊢;refine sI ?_;intros;refine dx (dD (.cons _ (.cons _ (.cons _ (List.Sublist.refl _))))) ?_;intros;refine gr 91 92 ?_;refine sJ2 c89r12.eq_1 @hw ?_
   (intros;try refine du ?_)
   refine eh ⟨⟨k+1,G2,A',c',zc',⟨by omega,hg'.trans hg2,hzc'⟩,eE,eE,eE,eE,rfl⟩,?_⟩;refine sI ?_;omega
  ·have ht:k=l.segs.length:=by have:=of_decide_eq_false ht;omega
   subst ht;rw[List.take_length]at hzc e3 ⊢;refine dT ?_;refine sI ?_;intros;refine gN ?_;exact eh ⟨G',A2,c2,zc,⟨hg',hzc⟩,eE,rfl⟩
 rintro e h ⟨G1,A2,c2,zc,⟨hg1,hzc⟩,e3,rfl⟩;refine dz [3] ?_;refine sJ @e3 ?_;intros;refine ed (dQ [] _ (by decide) hzc) ?_;rintro h' ⟨G2,rfl,hg2,hv2⟩;intros;refine gr 92 94 ?_;refine sJ c89r13.eq_1 ?_;intros;refine rV ?_;simp only[push_cast,Nat.reduceBEq];exact⟨_,rfl,A2,c2,rfl,hv2.le (.refl _) fun _ _ h=>SE.le hg2 h,hi,hj⟩
theorem F45:Fun Tryz.prog 45 27 v45 c45 o45:=Fun.mkA Tryz.func45 Tryz.ntmps45
theorem Is{α:Type}{P:Program}{h:H}{d sz:Nat}{l:List SI}{G:Nat→Option Obj}{E:α→List Value→Prop}{A:Option Addr}{xs:List α}{K:Env→H→Prop}{e:Addr→Env}{j:Int}{k o:Nat}{x:α}{Pu:Value→Prop}(hA:SlA G E sz A xs)(hx:xs[k]?=some x)(hj:j=k)(hG:h.G=G)(hu:∀ cs,E x cs→∃ u,cs[o]?=some u∧Pu u)
  (hk:∀ a,A=some a→∀ u,Pu u→kR P l d (e a) K u h):(0≤j∧j < xs.length)∧∃ a,A=some a∧ldX P (.pointer (some ((a.add (j.toNat * sz)).add o))) none d l (e a) h K:=by
 obtain⟨G',L,D⟩:=h;dsimp only at hG;subst hG;obtain⟨a,cs,ha,hE,_,_,hld⟩:=hA.at_ hx L D;obtain⟨u,hu,hp⟩:=hu cs hE;have:=SlA.lt hx;subst hj;exact⟨by omega,a,ha,_,by simpa using hld o u hu,hk a ha u hp⟩
theorem Bk(l:Lg)(cs:List Value)(G:Nat→Option Obj)(hl:LE G l cs):FnE Tryz.prog 45 #[.agg cs.toArray] G (fun r=>∃ b,r=.bool b∧(b=true→l.segs.length≤12∧∀ s∈l.segs,s.bytes.length≤5000)):=by
 obtain⟨A,c,rfl,⟨A0,c0,he,hc,hm,hA⟩,hi,hj⟩:=hl;cases he;refine F45.fnE (by simp) (dF ?_);unfold c45 ek;have hd:decide ((l.segs.length:Int)≤12)=decide (l.segs.length≤12):=decide_eq_decide.2 (by omega)
 have hrest:∀ (fr:List Td) (e:Env),(l.segs.length≤300→∀ s∈l.segs,s.bytes.length≤5000)→go none Tryz.prog 27 v45.1 v45.2 (fW o45 fun r _=>∃ b,r=.bool b∧(b=true→l.segs.length≤12∧∀ s∈l.segs,s.bytes.length≤5000)) (Td.s ((SC.reg false c45r6).seq .ret) :: fr) e ⟨G,[.reg 1 [.int .i64 l.limit,.int .i64 l.start,.slice A l.segs.length c]],[]⟩:=fun fr e hall=>by
  intros;refine gr 24 27 ?_;refine sJ2 c45r6.eq_1 @hd ?_;intros;refine rV ?_;simp only[push_cast,Nat.reduceBEq];exact⟨_,rfl,fun h=>by have h:=of_decide_eq_true h;exact⟨h,hall (by omega)⟩⟩
 intros;refine gr 0 0 ?_;refine sJ c45r0.eq_1 ?_;intros;refine gr 0 0 ?_;refine sJ c45r1.eq_1 ?_
 (intros;try refine du ?_)
 refine dW (fun e h=>∃ k:Nat,(k≤l.segs.length∧∀ s∈l.segs.take k,s.bytes.length≤5000)∧e 3=.int .i64 k∧h=⟨G,[.reg 1 [.int .i64 l.limit,.int .i64 l.start,.slice A l.segs.length c]],[]⟩) (fun e h=>l.segs.length - iv (e 3)) ?_ ?_
 ·exact⟨0,⟨Nat.zero_le _,by simp⟩,eE,rfl⟩
 rintro e h ⟨k,⟨hk,hall⟩,e3,rfl⟩;refine dz [3] ?_;refine sJ @e3 ?_;intros;refine gr 4 12 ?_;refine sJ c45r2.eq_1 ?_;refine gd (fun k1=>?_) (fun k1=>?_)
 ·have k1:k < l.segs.length:=by have:=of_decide_eq_true k1;omega
  refine sI ?_;intros;refine gc ?_;refine sI ?_;refine gb (fun k2=>?_) (fun k2=>?_)
  ·have hw:=fz k c (by omega) hm;obtain⟨s,hs⟩:∃ s,l.segs[k]?=some s:=⟨l.segs[k],List.getElem?_eq_getElem (by omega)⟩;intros;refine gN ?_;intros;refine gr 16 22 ?_;refine sJ c45r3.eq_1 ?_;refine Is (k:=k) (Pu:=fun u=>∃ B d,u=.slice B s.bytes.length d) hA hs rfl rfl (fun cs h=>by obtain⟨B,d,rfl,-⟩:=h;exact⟨_,rfl,B,d,rfl⟩) ?_;rintro a ha u ⟨B,d,rfl⟩;refine sI ?_;intros;refine gc ?_;refine sI ?_
   refine gb (fun k3=>?_) (fun k3=>?_)
   ·intros;refine gr 0 0 ?_;refine sJ c45r4.eq_1 ?_;intros;refine rV ?_;simp only[push_cast,Nat.reduceBEq];exact⟨false,rfl,fun h=>by cases h⟩
   ·have k3:=of_decide_eq_false k3;intros;refine gN ?_;intros;refine gr 13 15 ?_;refine sJ2 c45r5.eq_1 @hw ?_
    (intros;try refine du ?_)
    refine eh ⟨⟨k+1,⟨by omega,fun z hz=>?_⟩,eE,rfl⟩,?_⟩
    ·rw[ew hs]at hz;rcases List.mem_append.1 hz with h | h
     ·exact hall z h
     ·simp at h;subst h;omega
    ·refine sI ?_;omega
  ·have k2:=of_decide_eq_false k2;refine dT ?_;refine sI ?_;intros;refine gN ?_;exact hrest _ _ fun h=>by omega
 ·have k1:k=l.segs.length:=by have:=of_decide_eq_false k1;omega
  subst k1;rw[List.take_length]at hall;refine sI ?_;intros;refine gc ?_;refine sI ?_;refine dT ?_;refine sI ?_;intros;refine gN ?_;exact hrest _ _ fun _=>hall
theorem nN{l:Lg}(h:fj l=0):smL l.segs:=fun s hs=>by
 obtain⟨h1,h2,h3,h4⟩:=gY h;have:=(vS h3 s hs).2;have:=(hX.1 h1).1.2;omega
theorem wm{l:Lg}{s:Sg}{c:Nat}(h:fj l=0)(hs:l.segs[l.segs.length - 1]?=some s)(hc:c≤s.bytes.length):∃ j,Hurt l ⟨l.limit,l.start,l.segs.set (l.segs.length - 1) ⟨s.base,s.bytes.take c⟩⟩ s ⟨s.base,s.bytes.take c⟩ (l.segs.take (l.segs.length - 1)) [] j:=by
 have h0:=(List.getElem?_eq_some_iff.1 hs).1;have hdr:l.segs.drop (l.segs.length - 1+1)=[]:=List.drop_eq_nil_of_le (by omega);have h1:=l8 hs;have h2:=AA (⟨s.base,s.bytes.take c⟩:Sg) hs;rw[hdr]at h1 h2;obtain⟨r,hsc⟩:=eX s;obtain⟨k,r',-,hk,-⟩:=pT _ hsc hc;exact⟨k,h,rfl,rfl,h1,h2,rfl,by rw[List.length_take];omega,hk.is (s:=⟨s.base,s.bytes.take c⟩),.inl rfl⟩
end Go.Proofs.YtpmofpekcbghnaaGreat

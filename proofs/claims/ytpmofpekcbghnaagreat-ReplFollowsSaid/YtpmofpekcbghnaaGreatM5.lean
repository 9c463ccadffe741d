/- Parts of a proof, 35 texts in one file. No condition. -/
import Derived.Test.YtpmofpekcbghnaaGreatRows
import Derived.WalkKit
import Derived.ProofKit
import Derived.OpenShut
import Derived.ShutString
import Derived.ChangeOld
import Derived.ChangeSame
import Derived.Below
import Derived.Test.YtpmofpekcbghnaaGreatM1
import Derived.Test.YtpmofpekcbghnaaGreatM2
import Derived.Test.YtpmofpekcbghnaaGreatM3
import Derived.Test.YtpmofpekcbghnaaGreatM4
set_option linter.unusedSimpArgs false
set_option linter.unusedVariables false
namespace Go.Proofs.YtpmofpekcbghnaaGreat
open Go Go.Kx Go.ChangeShapes Go.WideShapes Go.ChangeAt Go.RowKit
open List (getElem?_eq_getElem mem_of_getElem? length_append append_nil append_assoc length_cons take_length)
theorem own:ownKnob Tryz.prog.godebug=none:=by kernel_rfl
theorem Ch:laidOutB Tryz.prog=true:=by kernel_rfl
theorem xT(W:World):jf Tryz.prog W 103 RR:=fun H enc fuel cs x hx=>by
 obtain⟨hl,hf⟩:=mn Tryz.underlying103 (by kernel_rfl) (by kernel_rfl) hx;obtain⟨v0,_,_,c0,t0⟩:=hf 0 _ rfl;obtain⟨v1,_,_,c1,t1⟩:=hf 1 _ rfl;obtain⟨v2,_,_,c2,t2⟩:=hf 2 _ rfl;obtain⟨v3,_,_,c3,t3⟩:=hf 3 _ rfl;obtain⟨v4,_,_,c4,t4⟩:=hf 4 _ rfl;obtain⟨n0,e0,w0⟩:=(fp Tryz.underlying3).at_ t0;obtain⟨n1,e1,w1⟩:=(mh Tryz.underlying9).at_ t1;obtain⟨n2,e2,w2⟩:=(mh Tryz.underlying9).at_ t2
 obtain⟨n3,e3⟩:=(og Tryz.underlying4).at_ t3;obtain⟨n4,e4,w4⟩:=(fp Tryz.underlying3).at_ t4;cases e0;cases e1;cases e2;cases e3;cases e4;refine⟨⟨n0,n1,n2,n3,n4⟩,?_,⟨iE w0,iE w4⟩,w1,w2⟩
 match cs,hl with
 | [_,_,_,_,_],_=>cases c0;cases c1;cases c2;cases c3;cases c4;rfl
theorem uH(W:World):jf Tryz.prog W 41 (fun(l:List Rec) cs=>∃ A c,cs=[.slice A l.length c]∧l.length≤c∧c≤maxLen∧SlA (tX W) RR 5 A l) :=
 nw Tryz.underlying41 (by kernel_rfl) (xT W)
theorem rj(W:World):jf Tryz.prog W 43 (BE (tX W)):=fun H enc fuel cs x hx=>by
 obtain⟨hl,hf⟩:=mn Tryz.underlying43 (by kernel_rfl) (by kernel_rfl) hx;obtain⟨v0,_,_,c0,t0⟩:=hf 0 _ rfl;obtain⟨v1,_,_,c1,t1⟩:=hf 1 _ rfl;obtain⟨v2,_,_,c2,t2⟩:=hf 2 _ rfl;obtain⟨v3,_,_,c3,t3⟩:=hf 3 _ rfl;obtain⟨v4,_,_,c4,t4⟩:=hf 4 _ rfl;obtain⟨v5,_,_,c5,t5⟩:=hf 5 _ rfl;obtain⟨v6,_,_,c6,t6⟩:=hf 6 _ rfl;obtain⟨v7,_,_,c7,t7⟩:=hf 7 _ rfl;obtain⟨v8,_,_,c8,t8⟩:=hf 8 _ rfl
 obtain⟨v9,_,_,c9,t9⟩:=hf 9 _ rfl;obtain⟨n0,e0,w0⟩:=(fp Tryz.underlying3).at_ t0;obtain⟨n1,e1,w1⟩:=(fp Tryz.underlying3).at_ t1;obtain⟨n2,e2,w2⟩:=(fp Tryz.underlying3).at_ t2;obtain⟨n3,e3,w3⟩:=(fp Tryz.underlying3).at_ t3;obtain⟨n4,e4,w4⟩:=(fp Tryz.underlying3).at_ t4;obtain⟨n5,e5,w5⟩:=(fp Tryz.underlying3).at_ t5;obtain⟨n6,e6,w6⟩:=(fp Tryz.underlying3).at_ t6
 obtain⟨n7,e7⟩:=(og Tryz.underlying4).at_ t7;obtain⟨n8,e8,w8⟩:=(fp Tryz.underlying3).at_ t8;obtain⟨n9,A,c,e9,w9⟩:=(uH W).at_ t9;cases e0;cases e1;cases e2;cases e3;cases e4;cases e5;cases e6;cases e7;cases e8;cases e9;refine⟨⟨n0,n1,n2,n3,n4,n5,n6,n7,n8,n9⟩,A,c,?_,w9,iE w0,iE w1,iE w2,iE w3,iE w4,iE w5,iE w6,iE w8⟩
 match cs,hl with
 | [_,_,_,_,_,_,_,_,_,_],_=>cases c0;cases c1;cases c2;cases c3;cases c4;cases c5;cases c6;cases c7;cases c8;cases c9;rfl
end Go.Proofs.YtpmofpekcbghnaaGreat
namespace Go.Proofs.YtpmofpekcbghnaaGreat
open Go Go.Kx
open List (getElem?_eq_getElem mem_of_getElem? length_append append_nil append_assoc length_cons take_length)
theorem F210:Fun Tryz.prog 210 11 v210 c210 o210:=Fun.mkA Tryz.func210 Tryz.ntmps210
theorem F196:Fun Tryz.prog 196 44 v196 c196 o196:=Fun.mkA Tryz.func196 Tryz.ntmps196
theorem F226:Fun Tryz.prog 226 25 v226 c226 o226:=Fun.mkA Tryz.func226 Tryz.ntmps226
theorem lP{a:Nat}(ha:a < 18446744073709551616):(BitVec.ofInt 64 (a:Int)).toNat=a:=by
 rw[BitVec.ofInt_natCast,BitVec.toNat_ofNat];exact Nat.mod_eq_of_lt ha
theorem ox{a:Nat}(ha:a < 18446744073709551616):IntKind.u64.wrap (a:Int)=(a:Int):=by
 rw[IntKind.wrap_u64];omega
theorem wq{a b:Nat}(ha:a < 18446744073709551616)(hb:b < 18446744073709551616):ff .and (.int .u64 (a:Int)) (.int .u64 (b:Int))=some (.int .u64 ((a &&& b:Nat):Int)):=by
 simp only[ff];rw[if_pos trivial];have:(BitVec.ofInt IntKind.u64.bits (a:Int) &&& BitVec.ofInt IntKind.u64.bits (b:Int)).toNat=a &&& b:=by
  show(BitVec.ofInt 64 (a:Int) &&& BitVec.ofInt 64 (b:Int)).toNat=_;rw[BitVec.toNat_and,lP ha,lP hb]
 rw[this,ox (Nat.lt_of_le_of_lt Nat.and_le_left ha)]
theorem sG{a b:Nat}(ha:a < 18446744073709551616)(hb:b < 18446744073709551616):ff .or (.int .u64 (a:Int)) (.int .u64 (b:Int))=some (.int .u64 ((a ||| b:Nat):Int)):=by
 simp only[ff];rw[if_pos trivial];have:(BitVec.ofInt IntKind.u64.bits (a:Int) ||| BitVec.ofInt IntKind.u64.bits (b:Int)).toNat=a ||| b:=by
  show(BitVec.ofInt 64 (a:Int) ||| BitVec.ofInt 64 (b:Int)).toNat=_
  rw[BitVec.toNat_or,lP ha,lP hb]
 rw[this,ox];exact Nat.or_lt_two_pow (n:=64) ha hb
theorem qu{a s:Nat}(hs:s≤64)(h:a * 2 ^ s < 18446744073709551616)(k:IntKind):ff .shl (.int .u64 (a:Int)) (.int k (s:Int))=some (.int .u64 ((a * 2 ^ s:Nat):Int)):=by
 simp only[ff];rw[if_pos (by omega)];have h1:min ((s:Int)).toNat IntKind.u64.bits=s:=by simp[IntKind.bits];omega
 rw[h1];have h2:(a:Int) * 2 ^ s=((a * 2 ^ s:Nat):Int):=by push_cast;rfl
 rw[h2,ox h]
theorem s8{a b n:Nat}(hb:b < 2 ^ n):a * 2 ^ n ||| b=a * 2 ^ n+b:=by
 rw[Nat.mul_comm];exact(Nat.two_pow_add_eq_or_of_lt hb a).symm
theorem C6(x:UInt8):ff .and (.int .u8 (x.toNat:Int)) (.int .u8 127)=some (.int .u8 ((x.toNat % 128:Nat):Int)):=by
 have key:∀ b:Fin 256,(BitVec.ofInt 8 ((b.val:Nat):Int) &&& BitVec.ofInt 8 127).toNat=b.val % 128:=by decide +kernel
 have h2:=key ⟨x.toNat,x.toNat_lt⟩;simp only[ff];rw[if_pos trivial];have h3:(BitVec.ofInt IntKind.u8.bits (x.toNat:Int) &&& BitVec.ofInt IntKind.u8.bits 127).toNat=x.toNat % 128:=h2;rw[h3,IntKind.wrap_u8];congr 2;omega
theorem Ho(x:Nat)(hx:x < 256):IntKind.u64.wrap (x:Int)=(x:Int):=ox (by omega)
theorem AD{α:Type}{E:α→J6→Prop}{G:J5}{sz:Nat}{P:Program}{d:Nat}{l:J7}{e:Env}{h:H}{K:Kj}{A:Ka}{n c:Nat}{xs:List α}{lw u m:Int}(lo hi mx:Nat)(hl:SlV G E sz (.slice A n c) xs)(h1:lw=lo)(h2:u=hi)(h3:m=mx)
  (h4:lo≤hi∧hi≤xs.length∧hi≤mx∧mx≤c) (hk:∀ B,SlV G E sz (.slice B ((xs.take hi).drop lo).length (mx - lo)) ((xs.take hi).drop lo)→kR P l d e K (.slice B ((xs.take hi).drop lo).length (mx - lo)) h):slY P A c (some lw) (some u) (some m) sz d l e h K:=by
 subst h1 h2 h3;obtain⟨A',c',he,hc,hm,hA⟩:=hl;cases he;have hlen:((xs.take hi).drop lo).length=hi - lo:=by simp;omega
 refine⟨by omega,?_⟩;have:=hk (if ((mx:Nat):Int).toNat=((lo:Nat):Int).toNat then A else A.map (·.add (((lo:Nat):Int).toNat * sz))) ⟨_,_,rfl,by omega,by omega,?_⟩
 ·rw[hlen]at this;simpa using this
 ·refine hA.cut (by omega) fun hlt=>?_
  rw[if_neg (by simp;omega)];simp
theorem SlV.pre{α:Type}{E:α→J6→Prop}{G:J5}{sz:Nat}{A:Ka}{n c:Nat}{xs:List α}(hi:Nat)(hl:SlV G E sz (.slice A n c) xs)(h:hi≤xs.length):SlV G E sz (.slice A hi c) (xs.take hi):=by
 obtain⟨A',c',he,hc,hm,hA⟩:=hl;cases he;have hlen:(xs.take hi).length=hi:=by simp;omega
 refine⟨A,c,by rw[hlen],by omega,hm,?_⟩;have:=hA.cut (l:=0) (n:=hi) (B:=A) h fun _=>by cases A <;> simp[Addr.add]
 simpa using this
def mj(l:Kf):Nat:=l.foldl (fun n x=>n * 256+x.toNat) 0
theorem xy:∀ (l:Kf) (n k:Nat),n < 256 ^ k→l.foldl (fun n x=>n * 256+x.toNat) n < 256 ^ (k+l.length)
 | [],n,k,h=>by simpa using h
 | x :: l,n,k,h=>by
  have hx:=x.toNat_lt;have:=xy l (n * 256+x.toNat) (k+1) (by rw[Nat.pow_succ];omega);rw[List.foldl_cons,length_cons,show k+(l.length+1)=k+1+l.length by omega];exact this
theorem wU(l:Kf):mj l < 256 ^ l.length:=by
 have:=xy l 0 0 (by simp);simpa [mj]using this
theorem xW{l:Kf}{k:Nat}{x:UInt8}(hx:l[k]?=some x):mj (l.take (k+1))=mj (l.take k) * 256+x.toNat:=by
 have h:=List.getElem?_eq_some_iff.1 hx;rw[List.take_succ_eq_append_getElem h.1,h.2];simp[mj]
theorem E9{l:Kf}(h:l.length≤7):mj l < 72057594037927936:=by
 have:=wU l;have h2:256 ^ l.length≤256 ^ 7:=Nat.pow_le_pow_right (by decide) h;omega
def jA(l:Kf)(a:Int)(k:Nat):Nat × Int:=if a < 0 then(0,1)else if (l.drop a.toNat).length < k then(0,10)else(mj ((l.drop a.toNat).take k),0)
theorem u6(l:Kf)(a:Nat)(v:Value)(G:J5)(hl:SB G v l):FnE Tryz.prog 210 #[v,.int .i64 (a:Int)] G (fun r=>SB G r (l.drop a)):=by
 obtain⟨A,c,rfl,hA⟩:=id hl;refine F210.fnE (by simp) (dI ?_);unfold c210;intros;refine gR 0 0 c210r0.eq_1 ?_;have hmin:min (a:Int) l.length=((min a l.length:Nat):Int):=by omega
 intros;refine gR2 5 11 c210r1.eq_1 @hmin ?_;refine AD (min a l.length) l.length c hl rfl rfl rfl (by have:=hA.1;omega) fun B hB=>?_
 have he:(l.take l.length).drop (min a l.length)=l.drop a:=by
  rw[take_length];by_cases h:a≤l.length
  ·rw[Nat.min_eq_left h]
  ·rw[Nat.min_eq_right (by omega),List.drop_length,List.drop_of_length_le (by omega)]
 rw[he]at hB ⊢;refine sI ?_;intros;refine rW ?_;exact hB
theorem yG{l:Kf}{a:Int}{k:Nat}(h:a < 0):jA l a k=(0,1):=if_pos h
theorem kp(l:Kf)(a k:Nat):jA l (a:Int) k=if (l.drop a).length < k then(0,10)else(mj ((l.drop a).take k),0):=by
 rw[jA,if_neg (by omega)];rfl
theorem xA(l:Kf)(a:Int)(k:Nat)(hk:1≤k∧k≤8)(v:Value)(G:J5)(hl:SB G v l):
  FnS Tryz.prog 196 #[v,.int .i64 a,.int .i64 (k:Int)] G (.tuple #[.int .u64 ((jA l a k).1:Int),.int .i64 (jA l a k).2]):=by
 obtain⟨A,c,rfl,hA⟩:=id hl;refine F196.fnS (by simp) (dI ?_);unfold c196;intros;refine gR 0 0 c196r0.eq_1 ?_;intros;refine gR 12 21 c196r1.eq_1 ?_;refine gd (fun h1=>absurd (Kn h1) (by omega)) (fun h1=>?_);refine sI ?_;have h2:decide ((8:Int) < (k:Int))=false:=decide_eq_false (by omega);refine sJ @h2 ?_;intros;refine gC ?_;refine gbD (fun h3=>?_) (fun h3=>?_)
 ·intros;refine gR 0 0 c196r2.eq_1 ?_;intros;refine rW ?_;rw[yG h3];rfl
 obtain⟨a,rfl⟩:∃ n:Nat,a=n:=⟨a.toNat,by omega⟩;rw[kp];intros;refine gN ?_;intros;refine gR 22 25 c196r3.eq_1 ?_;refine(u6 l a _ G hl _ _).mono ?_;rintro r h' ⟨hr,rfl⟩;generalize l.drop a=m at hr ⊢;obtain⟨B,d,rfl,hB⟩:=id hr;refine sI ?_;intros;refine gR 25 28 c196r4.eq_1 ?_;intros;refine gC ?_;refine gbD (fun h4=>?_) (fun h4=>?_)
 ·intros;refine gR 0 0 c196r5.eq_1 ?_;intros;refine rW ?_;rw[if_pos (by omega)];rfl
 rw[if_neg (by omega)];intros;refine gN ?_;intros;refine gR 0 0 c196r6.eq_1 ?_;intros;refine gR 29 31 c196r7.eq_1 ?_;refine⟨by have:=hB.1;omega,?_⟩;intros;refine dy ?_;have hC:=SlV.pre k hr (by omega);generalize hm:m.take k=x at hC ⊢;have hxl:x.length=k:=by rw[← hm];simp;omega
 obtain⟨B',d',he,hd',hm',hC⟩:=hC;cases he;refine dV (fun e h=>∃ (i:Nat),i≤x.length∧e 33=.int .i64 i∧e 32=.int .i64 x.length∧e 31=.slice B x.length d∧e 9=.int .u64 (mj (x.take i):Int)∧h=⟨G,[],[]⟩) (fun e h=>x.length - iv (e 33)) ?_ ?_
 ·exact⟨0,Nat.zero_le _,eE,eE,eE,by refine sI ?_;rfl,rfl⟩
 ·rintro e h ⟨i,hi,e33,e32,e31,e9,rfl⟩;refine dC [9,31,32,33] ?_;refine sJ4 @e9 @e31 @e32 @e33 ?_;intros;refine gR 0 0 c196r8.eq_1 ?_;intros;refine gC ?_;refine gb (fun ht=>?_) (fun ht=>?_)
  ·have ht:i < x.length:=by simpa using ht
   obtain⟨y,hy⟩:∃ y,x[i]?=some y:=⟨x[i],getElem?_eq_getElem (by omega)⟩;have hw:=fi i x.length ht (by unfold maxLen;omega);have h7:mj (x.take i) < 72057594037927936:=E9 (by simp;omega);have hyl:=y.toNat_lt;have hs:ff .shl (.int .u64 (mj (x.take i):Int)) (.int .u64 8)=some (.int .u64 ((mj (x.take i) * 2 ^ 8:Nat):Int)):=qu (s:=8) (by omega) (by omega) .u64
   have ho:ff .or (.int .u64 ((mj (x.take i) * 2 ^ 8:Nat):Int)) (.int .u64 (y.toNat:Int))=some (.int .u64 (mj (x.take (i+1)):Int)):=by
    rw[sG (by omega) (by omega),s8 (n:=8) (by omega),xW hy]
   generalize hq:mj (x.take i) * 2 ^ 8=q at hs ho;intros;refine gN ?_;intros;refine gR 35 37 c196r9.eq_1 ?_;refine hC.x_l1 hy rfl rfl ?_;rintro a1 ha1 u hu;cases hu;refine sI ?_;intros;refine gr 37 42 ?_;(refine sJ4 c196r10.eq_1 @hs (Ho y.toNat hyl) @ho ?_);intros;refine gR2 42 43 c196r11.eq_1 @hw ?_;intros;refine dy ?_;refine ej ⟨⟨i+1,by omega,eE,eE,eE,eE,rfl⟩,?_⟩;refine sI ?_;omega
  ·have ht:i=x.length:=by simp at ht;omega
   subst ht;refine dS ?_;refine sI ?_;intros;refine gR 43 44 c196r12.eq_1 ?_;intros;refine rW ?_;rw[List.take_of_length_le (by omega)]
def tI(l:Kf)(a:Nat):Bool × Int × Int:=match l[a]? with
 | none=>(false,0,10)
 | some x=>if 1 < x.toNat then(false,0,11)else(decide (x.toNat=1),a+1,0)
theorem BW(l:Kf)(a:Nat)(v:Value)(G:J5)(hl:SB G v l):
  FnS Tryz.prog 226 #[v,.int .i64 (a:Int)] G (.tuple #[.bool (tI l a).1,.int .i64 (tI l a).2.1,.int .i64 (tI l a).2.2]):=by
 obtain⟨A,c,rfl,hc,hm,hA⟩:=id hl;refine F226.fnS (by simp) (dI ?_);unfold c226;intros;refine gR 0 0 c226r0.eq_1 ?_;intros;refine gR 8 12 c226r1.eq_1 ?_;intros;refine gC ?_;refine gbD (fun h1=>?_) (fun h1=>?_)
 ·intros;refine gR 0 0 c226r2.eq_1 ?_;intros;refine rW ?_;rw[tI,List.getElem?_eq_none (by omega)]
 obtain⟨y,hy⟩:∃ y,l[a]?=some y:=⟨l[a]'(by omega),getElem?_eq_getElem _⟩;rw[tI,hy];dsimp only;intros;refine gR 13 18 c226r3.eq_1 ?_;refine hA.x_l1 hy rfl rfl ?_;rintro a1 ha1 u hu;cases hu;refine sI ?_;intros;refine gC ?_;refine gbD (fun h2=>?_) (fun h2=>?_)
 ·intros;refine gR 0 0 c226r4.eq_1 ?_;intros;refine rW ?_;rw[if_pos (by omega)]
 rw[if_neg (by omega)];have hw:=fi a l.length (by omega) (by omega);intros;refine gN ?_;intros;refine gR2 18 25 c226r5.eq_1 @hw ?_;refine hA.x_l1 hy rfl rfl ?_;rintro a1 ha1 u hu;cases hu;refine sJ @hw ?_;intros;refine rW ?_;congr 3;simp;omega
theorem F213:Fun Tryz.prog 213 58 v213 c213 o213:=Fun.mkA Tryz.func213 Tryz.ntmps213
theorem F222:Fun Tryz.prog 222 45 v222 c222 o222:=Fun.mkA Tryz.func222 Tryz.ntmps222
def gvL:Nat→Nat→Kf→Int × Nat × Nat
 | _,_,[]=>(10,0,0)
 | i,z,x :: xs=>if (i=9∧1 < x.toNat)∨(0 < i∧x.toNat=0)then(11,0,0)else if x.toNat < 128 then(0,z+128 ^ i * (x.toNat % 128),i+1)else gvL (i+1) (z+128 ^ i * (x.toNat % 128)) xs
def zag(z:Nat):Int:=if z % 2=0 then((z / 2:Nat):Int)else -((z / 2:Nat):Int) - 1
def fI(l:Kf)(a:Int):Int × Int × Int:=if a < 0 then(0,0,1)else if (gvL 0 0 (l.drop a.toNat)).1=0 then(zag (gvL 0 0 (l.drop a.toNat)).2.1,a+(gvL 0 0 (l.drop a.toNat)).2.2,0)else(0,0,(gvL 0 0 (l.drop a.toNat)).1)
theorem Bu(i z:Nat):gvL i z []=(10,0,0):=rfl
theorem rk{i z:Nat}{x:UInt8}{xs:Kf}(h:(i=9∧1 < x.toNat)∨(0 < i∧x.toNat=0)):gvL i z (x :: xs)=(11,0,0):=by rw[gvL,if_pos h]
theorem m9{i z:Nat}{x:UInt8}{xs:Kf}(h:¬ ((i=9∧1 < x.toNat)∨(0 < i∧x.toNat=0)))(h2:x.toNat < 128):gvL i z (x :: xs)=(0,z+128 ^ i * (x.toNat % 128),i+1):=by rw[gvL,if_neg h,if_pos h2]
theorem mK{i z:Nat}{x:UInt8}{xs:Kf}(h:¬ ((i=9∧1 < x.toNat)∨(0 < i∧x.toNat=0)))(h2:¬ x.toNat < 128):gvL i z (x :: xs)=gvL (i+1) (z+128 ^ i * (x.toNat % 128)) xs:=by rw[gvL,if_neg h,if_neg h2]
theorem IH{i:Nat}(h:i≤8):128 ^ i≤72057594037927936:=by
 have:128 ^ i≤128 ^ 8:=Nat.pow_le_pow_right (by decide) h;omega
theorem wY{i z x:Nat}(hi:i≤9)(hz:z < 128 ^ i)(hx:¬ (i=9∧1 < x))(hx2:x < 256):128 ^ i * (x % 128) < 18446744073709551616∧z+128 ^ i * (x % 128) < 18446744073709551616∧(i≤8→z+128 ^ i * (x % 128) < 128 ^ (i+1)):=by
 have h128:x % 128≤127:=by omega
 have h1:128 ^ i * (x % 128)≤128 ^ i * 127:=Nat.mul_le_mul_left _ h128;have h3:128 ^ (i+1)=128 ^ i * 128:=Nat.pow_succ ..;by_cases h9:i=9
 ·subst h9;have:x≤1:=by omega
  have h4:128 ^ 9 * (x % 128)≤128 ^ 9 * 1:=Nat.mul_le_mul_left _ (by omega);omega
 ·have:=IH (show i≤8 by omega);omega
theorem AW:∀ (m:Kf) (i z:Nat),i≤9→z < 128 ^ i→(gvL i z m).1=0→(gvL i z m).2.1 < 18446744073709551616∧i < (gvL i z m).2.2∧(gvL i z m).2.2≤i+m.length
 | [],i,z,_,_,h=>by simp[gvL]at h
 | x :: xs,i,z,hi,hz,h=>by
  by_cases h1:(i=9∧1 < x.toNat)∨(0 < i∧x.toNat=0)
  ·rw[rk h1]at h;cases h
  ·obtain⟨s1,s2,s3⟩:=wY hi hz (fun h=>h1 (.inl h)) x.toNat_lt;by_cases h2:x.toNat < 128
   ·rw[m9 h1 h2];exact⟨s2,by simp,by simp⟩
   ·have hi8:i≤8:=by omega
    rw[mK h1 h2]at h ⊢;obtain⟨a,b,c⟩:=AW xs (i+1) _ (by omega) (s3 hi8) h;refine⟨a,by omega,by simp;omega⟩
theorem Hh{z:Nat}(h:z < 18446744073709551616):I64 (zag z):=by
 unfold zag I64;split <;> omega
theorem Du{z:Nat}(hz:z < 18446744073709551616):ff .xor (.int .i64 ((z / 2:Nat):Int)) (.int .i64 (IntKind.i64.wrap (0 - ((z % 2:Nat):Int))))=some (.int .i64 (zag z)):=by
 have key:IntKind.i64.wrap (((BitVec.ofInt 64 ((z / 2:Nat):Int) ^^^ BitVec.ofInt 64 (IntKind.i64.wrap (0 - ((z % 2:Nat):Int)))).toNat:Nat):Int)=zag z:=by
  by_cases h0:z % 2=0
  ·have e2:IntKind.i64.wrap (0 - ((z % 2:Nat):Int))=0:=by rw[h0];rfl
   rw[e2];have:BitVec.ofInt 64 0=0#64:=rfl;rw[this,BitVec.xor_zero,lP (by omega),zag,if_pos h0,dX];omega
  ·have e2:IntKind.i64.wrap (0 - ((z % 2:Nat):Int))=-1:=by rw[show z % 2=1 by omega];rfl
   rw[e2];have:BitVec.ofInt 64 (-1)=BitVec.allOnes 64:=by decide
   rw[this,BitVec.xor_allOnes,BitVec.toNat_not,lP (by omega),zag,if_neg h0,IntKind.wrap_i64];omega
 simp only[ff];rw[if_pos trivial];exact congrArg (fun n=>some (Value.int .i64 n)) key
theorem rH(z:Nat):ff .shr (.int .u64 (z:Int)) (.int .u64 1)=some (.int .u64 ((z / 2:Nat):Int)):=by
 simp[ff,IntKind.bits];rw[Int.fdiv_eq_ediv_of_nonneg _ (by omega)]
theorem rC{z:Nat}(hz:z < 18446744073709551616):ff .and (.int .u64 (z:Int)) (.int .u64 1)=some (.int .u64 ((z % 2:Nat):Int)):=by
 have:=wq (b:=1) hz (by omega);rw[Nat.and_one_is_mod]at this;exact this
theorem kW(l:Kf)(a:Int)(v:Value)(G:J5)(hl:SB G v l):
  FnS Tryz.prog 213 #[v,.int .i64 a] G (.tuple #[.int .i64 (fI l a).1,.int .i64 (fI l a).2.1,.int .i64 (fI l a).2.2]):=by
 obtain⟨A,c,rfl,hc,hm,hA⟩:=id hl;unfold maxLen at hm;refine F213.fnS (by simp) (dI ?_);unfold c213;intros;refine gR 0 0 c213r0.eq_1 ?_;intros;refine gR 10 11 c213r1.eq_1 ?_;intros;refine gC ?_;refine gbD (fun h1=>?_) (fun h1=>?_)
 ·intros;refine gR 0 0 c213r2.eq_1 ?_;intros;refine rW ?_;rw[fI,if_pos h1]
 obtain⟨a,rfl⟩:∃ n:Nat,a=n:=⟨a.toNat,by omega⟩;have hgv:fI l (a:Int)=if (gvL 0 0 (l.drop a)).1=0 then(zag (gvL 0 0 (l.drop a)).2.1,(a:Int)+(gvL 0 0 (l.drop a)).2.2,0)else(0,0,(gvL 0 0 (l.drop a)).1):=by
  rw[fI,if_neg h1];rfl
 have hdl:a+(l.drop a).length≤l.length∨l.drop a=[]:=by
  by_cases h:a≤l.length
  ·left;simp;omega
  ·right;exact List.drop_of_length_le (by omega)
 rw[hgv];intros;refine gN ?_;intros;refine gR 0 0 c213r3.eq_1 ?_;intros;refine gR 12 14 c213r4.eq_1 ?_;refine(u6 l a _ G hl _ _).mono ?_;rintro r h' ⟨hr,rfl⟩;generalize hm0:l.drop a=m at hr hdl ⊢;obtain⟨B,d,rfl,hd,hdm,hB⟩:=hr;refine sI ?_;intros;refine dy ?_
 refine dV (fun e h=>∃ (i z:Nat),(i≤m.length∧i≤9∧z < 128 ^ i∧gvL 0 0 m=gvL i z (m.drop i))∧e 16=.int .i64 i∧e 15=.int .i64 m.length∧e 14=.slice B m.length d∧e 7=.int .u64 (z:Int)∧e 1=.int .i64 (a:Int)∧h=⟨G,[],[]⟩) (fun e h=>m.length - iv (e 16)) ?_ ?_
 ·exact⟨0,0,⟨Nat.zero_le _,by omega,by simp,by simp⟩,eE,eE,eE,eE,eE,rfl⟩
 ·rintro e h ⟨i,z,⟨hi,hi9,hz,heq⟩,e16,e15,e14,e7,e1,rfl⟩;refine dC [1,7,14,15,16] ?_;refine sJ5 @e1 @e7 @e14 @e15 @e16 ?_;intros;refine gR 0 0 c213r5.eq_1 ?_;intros;refine gC ?_;refine gb (fun ht=>?_) (fun ht=>?_)
  ·have ht:i < m.length:=by simpa using ht
   have hal:a+m.length≤l.length:=by
    rcases hdl with h | h
    ·exact h
    ·rw[h]at ht;simp at ht
   obtain⟨y,hy⟩:∃ y,m[i]?=some y:=⟨m[i],getElem?_eq_getElem (by omega)⟩;have hy0:=List.getElem?_eq_some_iff.1 hy;rw[List.drop_eq_getElem_cons ht,hy0.2]at heq;have hw:=fi i m.length ht (by omega);have hyl:=y.toNat_lt;intros;refine gN ?_;intros;refine gR 18 21 c213r6.eq_1 ?_;refine hB.x_l1 hy rfl rfl ?_;rintro a1 ha1 u hu;cases hu;refine sI ?_;intros;try refine dx ?_
   refine ez (fun e h=>¬ ((i=9∧1 < y.toNat)∨(0 < i∧y.toNat=0))∧e 16=.int .i64 i∧e 15=.int .i64 m.length∧e 14=.slice B m.length d∧e 7=.int .u64 (z:Int)∧e 1=.int .i64 (a:Int)∧e 8=.int .i64 i∧e 9=.int .u8 (y.toNat:Int)∧h=⟨G,[],[]⟩) ?_ ?_
   ·have hbad:((i=9∧1 < y.toNat)∨(0 < i∧y.toNat=0))→∀ (fr:Kc) (e:Env),go none Tryz.prog 58 v213.1 v213.2 (gl o213 fun v h=>v=.tuple #[.int .i64 (if (gvL 0 0 m).1=0 then(zag (gvL 0 0 m).2.1,(a:Int)+(gvL 0 0 m).2.2,0)else(0,0,(gvL 0 0 m).1)).1,.int .i64 (if (gvL 0 0 m).1=0 then(zag (gvL 0 0 m).2.1,(a:Int)+(gvL 0 0 m).2.2,0)else(0,0,(gvL 0 0 m).1)).2.1,.int .i64 (if (gvL 0 0 m).1=0 then(zag (gvL 0 0 m).2.1,(a:Int)+(gvL 0 0 m).2.2,0)else(0,0,(gvL 0 0 m).1)).2.2]) (Td.s ((SC.reg false c213r8).seq .ret) :: fr) e ⟨G,[],[]⟩:=fun hx fr e=>by
     intros;refine gR 0 0 c213r8.eq_1 ?_;intros;refine rW ?_;rw[heq,rk hx];rfl
    intros;refine gR 21 34 c213r7.eq_1 ?_;refine gd (fun k1=>?_) (fun k1=>?_)
    ·have k1:i=9:=by have:=Kn k1;omega
     have hp:decide ((0:Int) < (i:Int))=true:=decide_eq_true (by omega);refine sI ?_;refine gdD (fun k2=>?_) (fun k2=>?_)
     ·refine sI ?_;intros;refine gC ?_;exact hbad (.inl ⟨k1,by omega⟩) _ _
     ·refine sJ @hp ?_;intros;refine gC ?_;refine gb (fun k3=>?_) (fun k3=>?_)
      ·exact hbad (.inr ⟨by omega,by have:=Kn k3;omega⟩) _ _
      ·have k3:=Ko k3;intros;refine dy ?_;exact ej ⟨by omega,eE,eE,eE,eE,eE,eE,eE,rfl⟩
    ·have k1:¬ i=9:=by have:=Ko k1;omega
     refine sI ?_;refine gdD (fun k2=>?_) (fun k2=>?_)
     ·refine sI ?_;intros;refine gC ?_;refine gb (fun k3=>?_) (fun k3=>?_)
      ·exact hbad (.inr ⟨by omega,by have:=Kn k3;omega⟩) _ _
      ·have k3:=Ko k3;intros;refine dy ?_;exact ej ⟨by omega,eE,eE,eE,eE,eE,eE,eE,rfl⟩
     ·refine sI ?_;intros;refine gC ?_;intros;refine dy ?_;exact ej ⟨by omega,eE,eE,eE,eE,eE,eE,eE,rfl⟩
   rintro e h ⟨hgood,e16,e15,e14,e7,e1,e8,e9,rfl⟩;refine dC [1,7,8,9,14,15,16] ?_;refine sJ7 @e1 @e7 @e8 @e9 @e14 @e15 @e16 ?_;obtain⟨s1,s2,s3⟩:=wY hi9 hz (fun h=>hgood (.inl h)) hyl;have hp7:128 ^ i=2 ^ (7 * i):=by rw[Nat.pow_mul]
   have w7:IntKind.i64.wrap (7 * (i:Int))=((7 * i:Nat):Int):=by rw[dX] <;> omega
   have hs:ff .shl (.int .u64 ((y.toNat % 128:Nat):Int)) (.int .i64 ((7 * i:Nat):Int))=some (.int .u64 ((y.toNat % 128 * 2 ^ (7 * i):Nat):Int)):=qu (by omega) (by rw[← hp7,Nat.mul_comm];exact s1) .i64;have ho:ff .or (.int .u64 (z:Int)) (.int .u64 ((y.toNat % 128 * 2 ^ (7 * i):Nat):Int))=some (.int .u64 ((z+128 ^ i * (y.toNat % 128):Nat):Int)):=by
    rw[sG (by omega) (by rw[← hp7,Nat.mul_comm];exact s1),Nat.or_comm,s8 (by rw[← hp7];exact hz),← hp7,Nat.mul_comm,Nat.add_comm]
   have hcu:IntKind.u64.wrap ((y.toNat % 128:Nat):Int)=((y.toNat % 128:Nat):Int):=ox (by omega);have hx127:=C6 y;generalize hq:y.toNat % 128=q at hs ho hcu hx127;generalize hz':z+128 ^ i * q=z' at ho;generalize hqq:q * 2 ^ (7 * i)=qq at hs ho;generalize h7i:7 * i=j7 at hs w7;have hz2:z' < 18446744073709551616:=by rw[← hz',← hq];exact s2
   intros;refine gr 35 43 ?_;refine sJ6 c213r9.eq_1 @hx127 @hcu @w7 @hs @ho ?_;intros;refine gR 43 44 c213r10.eq_1 ?_;intros;refine gC ?_;refine gbD (fun k3=>?_) (fun k3=>?_)
   ·have w8:IntKind.i64.wrap ((a:Int)+i)=((a+i:Nat):Int):=by rw[dX] <;> omega
    have w9:IntKind.i64.wrap (((a+i:Nat):Int)+1)=((a+i+1:Nat):Int):=by rw[dX] <;> omega
    have hx:=Du hz2;have hcz:IntKind.i64.wrap ((z' / 2:Nat):Int)=((z' / 2:Nat):Int):=by rw[dX] <;> omega
    have hcm:IntKind.i64.wrap ((z' % 2:Nat):Int)=((z' % 2:Nat):Int):=by rw[dX] <;> omega
    have ha1:=rC hz2;have hs1:=rH z';generalize hv1:z' / 2=v1 at hx hcz hs1;generalize hv2:z' % 2=v2 at hx hcm ha1;generalize hv3:a+i=v3 at w8 w9;generalize hv4:v3+1=v4 at w9
    intros;refine gr 45 57 ?_;(try simp -implicitDefEqProofs only[nG,nH,push_cast,Nat.reduceBEq,Nat.reduceAdd,Nat.reduceSub,Nat.reduceMul,Nat.reduceLT,Nat.reduceLeDiff,Nat.reduceEqDiff,reduceIte,Bool.not_true,Bool.not_false,true_and,and_true,Option.map_some,Option.bind_some,Int.toNat_natCast,c213r11,hs1,ha1,hcz,hcm,hx,w8,w9]);intros;refine rW ?_
    have hend:=m9 (z:=z) (xs:=m.drop (i+1)) hgood (by omega);rw[heq,hend];simp only[if_true];rw[hq,hz',← hv4,← hv3];simp[Int.add_assoc]
   ·have hi8:i≤8:=by omega
    rw[mK hgood (by omega),hq,hz']at heq;intros;refine gN ?_;intros;refine gR2 57 58 c213r12.eq_1 @hw ?_;intros;refine dy ?_;refine ej ⟨⟨i+1,z',⟨by omega,by omega,by rw[← hz',← hq];exact s3 hi8,heq⟩,eE,eE,eE,eE,eE,rfl⟩,?_⟩;refine sI ?_;omega
  ·have ht:i=m.length:=by simp at ht;omega
   rw[ht,List.drop_length,Bu]at heq;refine dS ?_;refine sI ?_;intros;refine gR 0 0 c213r13.eq_1 ?_;intros;refine rW ?_;rw[heq];rfl
theorem F223:Fun Tryz.prog 223 14 v223 c223 o223:=Fun.mkA Tryz.func223 Tryz.ntmps223
theorem F221:Fun Tryz.prog 221 13 v221 c221 o221:=Fun.mkA Tryz.func221 Tryz.ntmps221
theorem l0{l:Kf}{a:Int}(h:(fI l a).2.2=0):∃ k:Nat,0≤a∧(fI l a).2.1=((a.toNat+k:Nat):Int)∧0 < k∧a.toNat+k≤l.length∧I64 (fI l a).1:=by
 unfold fI at h ⊢;split at h
 ·cases h
 rename_i h0;rw[if_neg h0];split at h
 ·rename_i h1;rw[if_pos h1];obtain⟨a1,a2,a3⟩:=AW _ 0 0 (by omega) (by simp) h1;refine⟨_,by omega,?_,a2,?_,Hh a1⟩
  ·dsimp only;omega
  ·have:(gvL 0 0 (l.drop a.toNat)).2.2≤l.length - a.toNat:=by simpa using a3
   omega
 ·rename_i h1;exact absurd h h1
def lJ(l:Kf)(a most:Int):ByteArray × Int × Int :=
 if (fI l a).2.2=0 then
  if (fI l a).1 < 0 then(⟨#[]⟩,0,11)else if most < (fI l a).1 then(⟨#[]⟩,0,2)else if (l.length:Int) - (fI l a).2.1 < (fI l a).1 then(⟨#[]⟩,0,10)
  else(⟨((l.take ((fI l a).2.1.toNat+(fI l a).1.toNat)).drop (fI l a).2.1.toNat).toArray⟩,(fI l a).2.1+(fI l a).1,0)
 else(⟨#[]⟩,0,(fI l a).2.2)
theorem uG(l:Kf)(a most:Int)(v:Value)(G:J5)(hl:SB G v l):
  FnS Tryz.prog 222 #[v,.int .i64 a,.int .i64 most] G (.tuple #[.string (lJ l a most).1,.int .i64 (lJ l a most).2.1,.int .i64 (lJ l a most).2.2]):=by
 obtain⟨A,c,rfl,hc,hm,hA⟩:=id hl;unfold maxLen at hm;refine F222.fnS (by simp) (dI ?_);unfold c222 lJ;have hk:=@l0 l a;intros;refine gR 0 0 c222r0.eq_1 ?_;intros;refine gR 10 17 c222r1.eq_1 ?_;refine fK (kW l a _ G hl _ _) ?_;generalize fI l a=q at hk ⊢;obtain⟨n,next,er⟩:=q;dsimp only at hk ⊢;intros;refine gR 18 20 c222r2.eq_1 ?_;intros;refine gC ?_;refine gb (fun h1=>?_) (fun h1=>?_)
 ·have h1:=Kn h1;intros;refine gR 20 21 c222r3.eq_1 ?_;intros;refine rW ?_;rw[if_neg h1]
 have h1:er=0:=by simpa using h1
 obtain⟨k,ha,hnx,hk0,hkl,hn⟩:=hk h1;generalize hb:a.toNat+k=b at hnx hkl;subst hnx;rw[if_pos h1];intros;refine gR 22 24 c222r4.eq_1 ?_;intros;refine gC ?_;refine gbD (fun h2=>?_) (fun h2=>?_)
 ·intros;refine gR 0 0 c222r5.eq_1 ?_;intros;refine rW ?_;rw[if_pos h2]
 rw[if_neg h2];intros;refine gR 25 28 c222r6.eq_1 ?_;intros;refine gC ?_;refine gbD (fun h3=>?_) (fun h3=>?_)
 ·intros;refine gR 0 0 c222r7.eq_1 ?_;intros;refine rW ?_;rw[if_pos h3]
 rw[if_neg h3];obtain⟨n,rfl⟩:∃ m:Nat,n=m:=⟨n.toNat,by omega⟩;have w1:IntKind.i64.wrap ((l.length:Int) - b)=(l.length:Int) - b:=by rw[dX] <;> omega
 intros;refine gR2 29 35 c222r8.eq_1 @w1 ?_;intros;refine gC ?_;refine gbD (fun h4=>?_) (fun h4=>?_)
 ·intros;refine gR 0 0 c222r9.eq_1 ?_;intros;refine rW ?_;rw[if_pos (by omega)]
 rw[if_neg (by omega)];have w2:IntKind.i64.wrap ((b:Int)+n)=((b+n:Nat):Int):=by rw[dX] <;> omega
 intros;refine gN ?_;intros;refine gR2 35 45 c222r10.eq_1 @w2 ?_;refine AD b (b+n) c hl rfl rfl rfl (by omega) fun B hB=>?_
 refine sI ?_;refine⟨_,sa hB rfl,?_⟩;refine sJ @w2 ?_;intros;refine rV ?_;simp only[push_cast,Nat.reduceBEq]
theorem yj(l:Kf)(a:Int)(v:Value)(G:J5)(hl:SB G v l):
  FnS Tryz.prog 221 #[v,.int .i64 a] G (.tuple #[.string (lJ l a 64).1,.int .i64 (lJ l a 64).2.1,.int .i64 (lJ l a 64).2.2]):=by
 refine F221.fnS (by simp) (dI ?_);unfold c221;intros;refine gR 0 0 c221r0.eq_1 ?_;intros;refine gR 7 13 c221r1.eq_1 ?_;refine fK (uG l a 64 _ G hl _ _) ?_;intros;refine rV ?_;simp only[push_cast,Nat.reduceBEq]
def bes(n d:Int):Int:=if d < -1099511627776∨1099511627776 < d then -1 else n+d
theorem qP(n d:Int)(hn:0≤n∧n≤1099511627776)(G:J5):FnS Tryz.prog 223 #[.int .i64 n,.int .i64 d] G (.int .i64 (bes n d)):=by
 refine F223.fnS (by simp) (dI ?_);unfold c223;intros;refine gR 0 0 c223r0.eq_1 ?_;have hbad:(d < -1099511627776∨1099511627776 < d)→∀ (fr:Kc) (e:Env),go none Tryz.prog 14 v223.1 v223.2 (gl o223 fun v h=>v=.int .i64 (bes n d)) (Td.s ((SC.reg false c223r2).seq .ret) :: fr) e ⟨G,[],[]⟩:=fun hx fr e=>by
  intros;refine gR 0 0 c223r2.eq_1 ?_;intros;refine rW ?_;rw[bes,if_pos hx]
 intros;refine gR 5 10 c223r1.eq_1 ?_;refine gd (fun h1=>?_) (fun h1=>?_)
 ·refine sI ?_;intros;refine gC ?_;exact hbad (.inl (Kn h1)) _ _
 have h1:=Ko h1;refine sI ?_;intros;refine gC ?_;refine gb (fun h2=>?_) (fun h2=>?_)
 ·exact hbad (.inr (Kn h2)) _ _
 have h2:=Ko h2;have w:IntKind.i64.wrap (n+d)=n+d:=by rw[dX] <;> omega
 intros;refine gN ?_;intros;refine gR2 11 14 c223r3.eq_1 @w ?_;intros;refine rW ?_;rw[bes,if_neg (by omega)]
theorem F224:Fun Tryz.prog 224 32 v224 c224 o224:=Fun.mkA Tryz.func224 Tryz.ntmps224
theorem F225:Fun Tryz.prog 225 32 v225 c225 o225:=Fun.mkA Tryz.func225 Tryz.ntmps225
theorem F227:Fun Tryz.prog 227 32 v227 c227 o227:=Fun.mkA Tryz.func227 Tryz.ntmps227
theorem dH{h:H}{b o:Nat}{cs:J6}{v:Value}(hm:Item.blk b cs∈h.L)(hv:cs[o]?=some v):LdN h (.pointer (some ⟨b,o,none⟩)) none v:=⟨_,rfl,.blk hm hv⟩
def nx{α:Type}(e:Int)(z:α)(x:Int)(r:α × Int × Int):α × Int × Int:=if e=0 then r else(z,x,e)
theorem tQ{α:Type}{e:Int}{z:α}{x:Int}{r:α × Int × Int}(h:e=0):nx e z x r=r:=if_pos h
theorem Dg{α:Type}{e:Int}{z:α}{x:Int}{r:α × Int × Int}(h:¬ e=0):nx e z x r=(z,x,e):=if_neg h
theorem pN(l:Kf)(a e:Int)(v:Value)(b:Nat)(G:J5)(hl:SB G v l)(g:Nat)(rd:Kf→Int→Int × Int × Int)
  (hg:FnS Tryz.prog g #[v,.int .i64 a] G (.tuple #[.int .i64 (rd l a).1,.int .i64 (rd l a).2.1,.int .i64 (rd l a).2.2])) :
  FnO Tryz.prog 224 #[.pointer (some ⟨b,0,none⟩),.func (.func g) #[] #[]] G [.blk b [v,.int .i64 a,.int .i64 e]] (fun _ L' r=>r=.int .i64 (nx e 0 a (rd l a)).1∧L'=[.blk b [v,.int .i64 (nx e 0 a (rd l a)).2.1,.int .i64 (nx e 0 a (rd l a)).2.2]]):=by
 obtain⟨A,c,rfl,-⟩:=hl;refine F224.fnO (by simp) (dF dw) (dI ?_);unfold c224;intros;refine gR 0 0 c224r0.eq_1 ?_;intros;refine gR 0 0 c224r1.eq_1 ?_;intros;refine gR 6 10 c224r2.eq_1 ?_;refine⟨_,dH (.head _) rfl,?_⟩;refine sI ?_;intros;refine gC ?_;refine gbD (fun h1=>?_) (fun h1=>?_)
 ·intros;refine dy ?_;refine qY _ Kl (by decide) ?_;refine sJ c224r3.eq_1 ?_;refine⟨_,dH (.head _) rfl,?_⟩;refine sI ?_;refine⟨_,dH (.head _) rfl,?_⟩;refine sI ?_;refine .inl ⟨_,_,rfl,?_⟩;refine fK (hg _ _) ?_;refine fX ?_;refine sI ?_;refine dM [] [] rfl (by simp) ⟨rfl,rfl⟩ ?_;refine sI ?_;refine fX ?_;refine sI ?_;refine dM [] [] rfl (by simp) ⟨rfl,rfl⟩ ?_;refine sI ?_;intros;refine dy ?_
  intros;refine gR 31 32 c224r4.eq_1 ?_;intros;refine dy ?_;refine dG (dL _ rfl Kl (dF dw) ?_);rw[tQ h1];exact⟨rfl,rfl⟩
 ·intros;refine gN ?_;intros;refine gR 31 32 c224r4.eq_1 ?_;intros;refine dy ?_;refine dG (dL _ rfl Kl (dF dw) ?_);rw[Dg h1];exact⟨rfl,rfl⟩
theorem vN(l:Kf)(a e:Int)(v:Value)(b:Nat)(G:J5)(hl:SB G v l)(g:Nat)(rd:Kf→Int→Bool × Int × Int)
  (hg:FnS Tryz.prog g #[v,.int .i64 a] G (.tuple #[.bool (rd l a).1,.int .i64 (rd l a).2.1,.int .i64 (rd l a).2.2])) :
  FnO Tryz.prog 225 #[.pointer (some ⟨b,0,none⟩),.func (.func g) #[] #[]] G [.blk b [v,.int .i64 a,.int .i64 e]] (fun _ L' r=>r=.bool (nx e false a (rd l a)).1∧L'=[.blk b [v,.int .i64 (nx e false a (rd l a)).2.1,.int .i64 (nx e false a (rd l a)).2.2]]):=by
 obtain⟨A,c,rfl,-⟩:=hl;refine F225.fnO (by simp) (dF dw) (dI ?_);unfold c225;intros;refine gR 0 0 c225r0.eq_1 ?_;intros;refine gR 0 0 c225r1.eq_1 ?_;intros;refine gR 6 10 c225r2.eq_1 ?_;refine⟨_,dH (.head _) rfl,?_⟩;refine sI ?_;intros;refine gC ?_;refine gbD (fun h1=>?_) (fun h1=>?_)
 ·intros;refine dy ?_;refine qY _ Kl (by decide) ?_;refine sJ c225r3.eq_1 ?_;refine⟨_,dH (.head _) rfl,?_⟩;refine sI ?_;refine⟨_,dH (.head _) rfl,?_⟩;refine sI ?_;refine .inl ⟨_,_,rfl,?_⟩;refine fK (hg _ _) ?_;refine fX ?_;refine sI ?_;refine dM [] [] rfl (by simp) ⟨rfl,rfl⟩ ?_;refine sI ?_;refine fX ?_;refine sI ?_;refine dM [] [] rfl (by simp) ⟨rfl,rfl⟩ ?_;refine sI ?_;intros;refine dy ?_
  intros;refine gR 31 32 c225r4.eq_1 ?_;intros;refine dy ?_;refine dG (dL _ rfl Kl (dF dw) ?_);rw[tQ h1];exact⟨rfl,rfl⟩
 ·intros;refine gN ?_;intros;refine gR 31 32 c225r4.eq_1 ?_;intros;refine dy ?_;refine dG (dL _ rfl Kl (dF dw) ?_);rw[Dg h1];exact⟨rfl,rfl⟩
theorem qj(l:Kf)(a e:Int)(v:Value)(b:Nat)(G:J5)(hl:SB G v l)(g:Nat)(rd:Kf→Int→ByteArray × Int × Int)
  (hg:FnS Tryz.prog g #[v,.int .i64 a] G (.tuple #[.string (rd l a).1,.int .i64 (rd l a).2.1,.int .i64 (rd l a).2.2])) :
  FnO Tryz.prog 227 #[.pointer (some ⟨b,0,none⟩),.func (.func g) #[] #[]] G [.blk b [v,.int .i64 a,.int .i64 e]] (fun _ L' r=>r=.string (nx e ⟨#[]⟩ a (rd l a)).1∧L'=[.blk b [v,.int .i64 (nx e ⟨#[]⟩ a (rd l a)).2.1,.int .i64 (nx e ⟨#[]⟩ a (rd l a)).2.2]]):=by
 obtain⟨A,c,rfl,-⟩:=hl;refine F227.fnO (by simp) (dF dw) (dI ?_);unfold c227;intros;refine gR 0 0 c227r0.eq_1 ?_;intros;refine gR 0 0 c227r1.eq_1 ?_;intros;refine gR 6 10 c227r2.eq_1 ?_;refine⟨_,dH (.head _) rfl,?_⟩;refine sI ?_;intros;refine gC ?_;refine gbD (fun h1=>?_) (fun h1=>?_)
 ·intros;refine dy ?_;refine qY _ Kl (by decide) ?_;refine sJ c227r3.eq_1 ?_;refine⟨_,dH (.head _) rfl,?_⟩;refine sI ?_;refine⟨_,dH (.head _) rfl,?_⟩;refine sI ?_;refine .inl ⟨_,_,rfl,?_⟩;refine fK (hg _ _) ?_;refine fX ?_;refine sI ?_;refine dM [] [] rfl (by simp) ⟨rfl,rfl⟩ ?_;refine sI ?_;refine fX ?_;refine sI ?_;refine dM [] [] rfl (by simp) ⟨rfl,rfl⟩ ?_;refine sI ?_;intros;refine dy ?_
  intros;refine gR 31 32 c227r4.eq_1 ?_;intros;refine dy ?_;refine dG (dL _ rfl Kl (dF dw) ?_);rw[tQ h1];exact⟨rfl,rfl⟩
 ·intros;refine gN ?_;intros;refine gR 31 32 c227r4.eq_1 ?_;intros;refine dy ?_;refine dG (dL _ rfl Kl (dF dw) ?_);rw[Dg h1];exact⟨rfl,rfl⟩
theorem F214:Fun Tryz.prog 214 82 v214 c214 o214:=Fun.mkA Tryz.func214 Tryz.ntmps214
def kZ:Rec:=⟨0,⟨#[]⟩,⟨#[]⟩,false,0⟩
def g1(l:Kf)(a:Int):Int × Int × Int:=nx 0 0 a (fI l a)
def g2(l:Kf)(a:Int):Int × Int × Int:=nx (g1 l a).2.2 0 (g1 l a).2.1 (fI l (g1 l a).2.1)
def g3(l:Kf)(a:Int):Bool × Int × Int:=nx (g2 l a).2.2 false (g2 l a).2.1 (tI l (g2 l a).2.1.toNat)
def g4(l:Kf)(a:Int):ByteArray × Int × Int:=nx (g3 l a).2.2 ⟨#[]⟩ (g3 l a).2.1 (lJ l (g3 l a).2.1 64)
def g5(l:Kf)(a:Int):ByteArray × Int × Int:=nx (g4 l a).2.2 ⟨#[]⟩ (g4 l a).2.1 (lJ l (g4 l a).2.1 64)
def uN(l:Kf)(a base stamp:Int):Rec:=⟨bes base (g1 l a).1,(g4 l a).1,(g5 l a).1,(g3 l a).1,bes stamp (g2 l a).1⟩
def getR(l:Kf)(a base stamp:Int):Rec × Int × Int :=
 if inO base=true∧inO stamp=true∧0≤a∧a≤l.length then
  if (g5 l a).2.2=0 then(if kz (uN l a base stamp)=0 then(uN l a base stamp,(g5 l a).2.1,0)else(kZ,0,1))else(kZ,0,(g5 l a).2.2)
 else(kZ,0,1)
theorem nt(l:Kf)(a:Int):0≤(fI l a).2.1:=by
 by_cases h:(fI l a).2.2=0
 ·obtain⟨k,h1,h2,-⟩:=l0 h;omega
 ·unfold fI at h ⊢;split
  ·simp
  ·rename_i h0;rw[if_neg h0]at h;split
   ·rename_i h1;rw[if_pos h1]at h;simp at h
   ·simp
theorem Hm(l:Kf)(a:Int):0≤(g2 l a).2.1:=by
 unfold g2 nx;split
 ·exact nt _ _
 ·unfold g1;rw[tQ rfl];exact nt _ _
theorem BV(l:Kf)(a base stamp:Int)(v:Value)(G:J5)(hl:SB G v l):
  FnE Tryz.prog 214 #[v,.int .i64 a,.int .i64 base,.int .i64 stamp] G (fun r=>r=.tuple #[.agg (ia (getR l a base stamp).1).toArray,.int .i64 (getR l a base stamp).2.1,.int .i64 (getR l a base stamp).2.2]):=by
 obtain⟨A,c,rfl,hc,hm,hA⟩:=id hl;refine F214.fnE (by simp) (dI ?_);unfold c214;have hck:=fun x=>oN x
 unfold ia at hck;intros;refine gR 0 0 c214r0.eq_1 ?_
 have hbad:∀ (fr:Kc) (e:Env),¬ (inO base=true∧inO stamp=true∧0≤a∧a≤l.length)→go none Tryz.prog 82 v214.1 v214.2 (gl o214 fun v _=>v=.tuple #[.agg (ia (getR l a base stamp).1).toArray,.int .i64 (getR l a base stamp).2.1,.int .i64 (getR l a base stamp).2.2]) (Td.s ((SC.reg false c214r2).seq .ret) :: fr) e ⟨G,[.reg 8 [.int .i64 0,.string ⟨#[]⟩,.string ⟨#[]⟩,.bool false,.int .i64 0]],[]⟩:=fun fr e hx=>by
  intros;refine gR 31 32 c214r2.eq_1 ?_;intros;refine rW ?_;rw[getR,if_neg hx];rfl
 intros;refine gR 13 30 c214r1.eq_1 ?_;refine fK (tY base G _ _) ?_;refine gd (fun h1=>?_) (fun h1=>?_)
 ·refine sI ?_;intros;refine gC ?_;exact hbad _ _ fun h=>by rw[h.1]at h1;cases h1
 refine sI ?_;refine fK (tY stamp G _ _) ?_;refine gd (fun h2=>?_) (fun h2=>?_)
 ·refine sI ?_;intros;refine gC ?_;exact hbad _ _ fun h=>by rw[h.2.1]at h2;cases h2
 refine sI ?_;refine gd (fun h3=>?_) (fun h3=>?_)
 ·refine sI ?_;intros;refine gC ?_;exact hbad _ _ fun h=>by have:=Kn h3;omega
 refine sI ?_;intros;refine gC ?_;refine gb (fun h4=>?_) (fun h4=>?_)
 ·exact hbad _ _ fun h=>by have:=Kn h4;omega
 clear hbad;have h1:inO base=true:=by simpa using h1
 have h2:inO stamp=true:=by simpa using h2
 have h3:=Ko h3;have h4:=Ko h4;have hb:0≤base∧base≤1099511627776:=by simpa [inO]using h1
 have hs:0≤stamp∧stamp≤1099511627776:=by simpa [inO]using h2
 rw[show getR l a base stamp=(if (g5 l a).2.2=0 then(if kz (uN l a base stamp)=0 then(uN l a base stamp,(g5 l a).2.1,0)else(kZ,0,1))else(kZ,0,(g5 l a).2.2))from if_pos ⟨h1,h2,by omega,by omega⟩];intros;refine gN ?_;intros;refine gR 32 36 c214r3.eq_1 ?_;intro b hb0;refine sI ?_;intros;refine gR 0 0 c214r4.eq_1 ?_;intros;refine gR 36 40 c214r5.eq_1 ?_
 refine(pN l a 0 _ b G hl 213 fI (kW l a _ G hl) _ []).mono ?_;rintro r h' ⟨G1,L',rfl,hg1,rfl,rfl⟩;rw[show nx 0 0 a (fI l a)=g1 l a from rfl];refine sI ?_;refine fK (qP base _ hb G1 _ _) ?_;intros;refine gR 41 45 c214r6.eq_1 ?_;have hl1:=SB.le hl hg1;refine(pN l (g1 l a).2.1 (g1 l a).2.2 _ b G1 hl1 213 fI (kW l _ _ G1 hl1) _ []).mono ?_;rintro r h' ⟨G2,L',rfl,hg2,rfl,rfl⟩
 rw[show nx (g1 l a).2.2 0 (g1 l a).2.1 (fI l (g1 l a).2.1)=g2 l a from rfl];refine sI ?_;refine fK (qP stamp _ hs G2 _ _) ?_;intros;refine gR 46 48 c214r7.eq_1 ?_;have hl2:=SB.le hl1 hg2;have hfl:=BW l (g2 l a).2.1.toNat _ G2 hl2;rw[Int.toNat_of_nonneg (Hm l a)]at hfl;refine(vN l (g2 l a).2.1 (g2 l a).2.2 _ b G2 hl2 226 (fun l a=>tI l a.toNat) hfl _ []).mono ?_;rintro r h' ⟨G3,L',rfl,hg3,rfl,rfl⟩
 rw[show nx (g2 l a).2.2 false (g2 l a).2.1 (tI l (g2 l a).2.1.toNat)=g3 l a from rfl];have hl3:=SB.le hl2 hg3;refine sI ?_;intros;refine gR 49 55 c214r8.eq_1 ?_;refine(qj l (g3 l a).2.1 (g3 l a).2.2 _ b G3 hl3 221 (fun l a=>lJ l a 64) (yj l _ _ G3 hl3) _ []).mono ?_;rintro r h' ⟨G4,L',rfl,hg4,rfl,rfl⟩;rw[show nx (g3 l a).2.2 ⟨#[]⟩ (g3 l a).2.1 (lJ l (g3 l a).2.1 64)=g4 l a from rfl]
 have hl4:=SB.le hl3 hg4;refine sI ?_;refine(qj l (g4 l a).2.1 (g4 l a).2.2 _ b G4 hl4 221 (fun l a=>lJ l a 64) (yj l _ _ G4 hl4) _ []).mono ?_;rintro r h' ⟨G5,L',rfl,hg5,rfl,rfl⟩;rw[show nx (g4 l a).2.2 ⟨#[]⟩ (g4 l a).2.1 (lJ l (g4 l a).2.1 64)=g5 l a from rfl];refine sI ?_;intro _;have hrr:uN l a base stamp=⟨bes base (g1 l a).1,(g4 l a).1,(g5 l a).1,(g3 l a).1,bes stamp (g2 l a).1⟩:=rfl
 generalize bes base (g1 l a).1=q0 at hrr ⊢;generalize (g4 l a).1=q1 at hrr ⊢;generalize (g5 l a).1=q2 at hrr ⊢;generalize (g3 l a).1=q3 at hrr ⊢;generalize bes stamp (g2 l a).1=q4 at hrr ⊢;generalize (g5 l a).2.1=x5;generalize (g5 l a).2.2=e5;generalize uN l a base stamp=R at hrr ⊢;have hckR:=hck R;subst hrr;dsimp only at hckR;intros;try refine dx ?_
 refine ez (fun e h=>e 11=.pointer (some ⟨b,0,none⟩)∧h=⟨G5,[.blk b [.slice A l.length c,.int .i64 x5,.int .i64 (if e5=0 then kz ⟨q0,q1,q2,q3,q4⟩else e5)],.reg 8 [.int .i64 q0,.string q1,.string q2,.bool q3,.int .i64 q4]],[]⟩) ?_ ?_
 ·intros;refine gR 57 61 c214r9.eq_1 ?_;refine⟨_,dH (.head _) rfl,?_⟩;refine sI ?_;intros;refine gC ?_;refine gbD (fun k1=>?_) (fun k1=>?_)
  ·intros;refine gR 62 67 c214r10.eq_1 ?_;refine fK (hckR G5 _ _) ?_;refine dM [] [_] rfl (by simp) ⟨rfl,rfl⟩ ?_;refine sI ?_;intros;refine dy ?_;exact ej ⟨eE,by rw[if_pos k1]⟩
  ·intros;refine dy ?_;exact ej ⟨eE,by rw[if_neg k1]⟩
 rintro e h ⟨e11,rfl⟩;refine dC [11] ?_;refine sJ @e11 ?_;generalize hce:kz ⟨q0,q1,q2,q3,q4⟩=ce;have hck01:ce=0∨ce=1:=by
  rw[← hce];unfold kz;split
  ·exact .inl rfl
  ·exact .inr rfl
 generalize he':(if e5=0 then ce else e5)=e';intros;refine gR 67 71 c214r11.eq_1 ?_;refine⟨_,dH (.head _) rfl,?_⟩;refine sI ?_;intros;refine gC ?_;refine gb (fun k1=>?_) (fun k1=>?_)
 ·have k1:=Kn k1;intros;refine dy ?_;refine qY _ (.cons_cons _ (.cons _ Kl)) (by decide) ?_;refine sJ c214r12.eq_1 ?_;refine⟨_,dH (.head _) rfl,?_⟩;refine sI ?_;refine⟨dO Kp (.cons_cons _ (.cons _ Kl)),?_⟩;refine sI ?_;intros;refine rW ?_;by_cases h5:e5=0
  ·rw[if_pos h5]at he';subst he';rw[if_pos h5,if_neg k1,hck01.resolve_left k1];rfl
  ·rw[if_neg h5]at he';subst he';rw[if_neg h5];rfl
 ·have k1:e'=0:=by simpa using k1
  intros;refine gN ?_;intros;refine dy ?_;refine qY _ Kl (by decide) ?_;refine sJ c214r13.eq_1 ?_;refine⟨_,dH (.head _) rfl,?_⟩;refine sI ?_;intros;refine rW ?_;by_cases h5:e5=0
  ·rw[if_pos h5]at he';rw[if_pos h5,if_pos (by rw[he'];exact k1)];rfl
  ·rw[if_neg h5]at he';rw[he']at h5;exact absurd k1 h5
theorem E0(l:Kf)(a:Int):g1 l a=fI l a:=tQ rfl
theorem rv{l:Kf}{a base stamp:Int}(h:inO base=true∧inO stamp=true∧0≤a∧a≤l.length):getR l a base stamp=(if (g5 l a).2.2=0 then(if kz (uN l a base stamp)=0 then(uN l a base stamp,(g5 l a).2.1,0)else(kZ,0,1))else(kZ,0,(g5 l a).2.2)):=if_pos h
theorem AV{l:Kf}{a base stamp:Int}(h:inO base=true∧inO stamp=true∧0≤a∧a≤l.length)(h5:¬ (g5 l a).2.2=0):getR l a base stamp=(kZ,0,(g5 l a).2.2):=by rw[rv h,if_neg h5]
theorem Bf{l:Kf}{a base stamp:Int}(h:inO base=true∧inO stamp=true∧0≤a∧a≤l.length)(h4:¬ (g4 l a).2.2=0):getR l a base stamp=(kZ,0,(g4 l a).2.2):=by
 have h5:(g5 l a).2.2=(g4 l a).2.2:=by rw[g5,Dg h4]
 rw[AV h (by rw[h5];exact h4),h5]
theorem AZ{l:Kf}{a base stamp:Int}(h:inO base=true∧inO stamp=true∧0≤a∧a≤l.length)(h3:¬ (g3 l a).2.2=0):getR l a base stamp=(kZ,0,(g3 l a).2.2):=by
 have h4:(g4 l a).2.2=(g3 l a).2.2:=by rw[g4,Dg h3]
 rw[Bf h (by rw[h4];exact h3),h4]
theorem Bg{l:Kf}{a base stamp:Int}(h:inO base=true∧inO stamp=true∧0≤a∧a≤l.length)(h2:¬ (g2 l a).2.2=0):getR l a base stamp=(kZ,0,(g2 l a).2.2):=by
 have h3:(g3 l a).2.2=(g2 l a).2.2:=by rw[g3,Dg h2]
 rw[AZ h (by rw[h3];exact h2),h3]
theorem FW{l:Kf}{a base stamp:Int}(h:inO base=true∧inO stamp=true∧0≤a∧a≤l.length)(h1:¬ (g1 l a).2.2=0):getR l a base stamp=(kZ,0,(g1 l a).2.2):=by
 have h2:(g2 l a).2.2=(g1 l a).2.2:=by rw[g2,Dg h1]
 rw[Bg h (by rw[h2];exact h1),h2]
theorem F197:Fun Tryz.prog 197 33 v197 c197 o197:=Fun.mkA Tryz.func197 Tryz.ntmps197
theorem pR(n k:Nat):mA n (k+1)=mA (n / 256) k++[UInt8.ofNat n]:=by
 unfold mA;rw[List.range_succ,List.map_append];congr 1
 ·apply List.map_congr_left;intro i hi;have hi:=List.mem_range.1 hi;congr 1;rw[Nat.div_div_eq_div_mul,show k+1 - 1 - i=(k - 1 - i)+1 by omega,Nat.pow_succ,Nat.mul_comm]
 ·simp
theorem qa(l:Kf)(x:UInt8):mj (l++[x])=mj l * 256+x.toNat:=by simp[mj]
theorem mX:∀ (k:Nat) (l:Kf),l.length=k→mA (mj l) k=l
 | 0,l,h=>by
  have:l=[]:=List.eq_nil_of_length_eq_zero h;subst this;rfl
 | k+1,l,h=>by
  obtain⟨m,x,rfl⟩:∃ m x,l=m++[x]:=by
   have hne:l≠[]:=by intro h0;rw[h0]at h;cases h
   exact⟨l.dropLast,l.getLast hne,(List.dropLast_concat_getLast hne).symm⟩
  have hx:=x.toNat_lt;have hl:m.length=k:=by simpa using h
  rw[pR,qa,show(mj m * 256+x.toNat) / 256=mj m by omega,mX k m hl];congr 1;have:UInt8.ofNat (mj m * 256+x.toNat)=x:=by
   apply UInt8.toNat_inj.1;simp
  rw[this]
theorem lG:∀ (k n:Nat),n < 256 ^ k→mj (mA n k)=n
 | 0,n,h=>by
  have:n=0:=by simpa using h
  subst this;rfl
 | k+1,n,h=>by
  rw[Nat.pow_succ]at h;rw[pR,qa,lG k (n / 256) (by omega)];simp;try omega
def jm(l:Kf):Kf × Int:=if l.length < 4 then([],10)else if l.drop (l.length - 4)=mA (DZ (l.take (l.length - 4))).toNat 4 then(l.take (l.length - 4),0)else([],20)
theorem AE{a:W32}{m:Kf}(hm:m.length=4):mj m=a.toNat↔m=mA a.toNat 4:=by
 constructor
 ·intro h;rw[← h,mX 4 m hm]
 ·intro h;rw[h,lG 4 _ (by have:=a.isLt;omega)]
theorem BK(l:Kf)(v:Value)(G:J5)(hl:SB G v l)(hb:l.length≤1000000):FnO Tryz.prog 197 #[v] G [] (fun _ L' r=>zy (jm l) L' r):=by
 obtain⟨A,c,rfl,hc,hm,hA⟩:=id hl;refine F197.fnO (by simp) dw (dI ?_);unfold c197;have w1:IntKind.i64.wrap ((l.length:Int) - 4)=(l.length:Int) - 4:=by rw[dX] <;> omega
 intros;refine gR 0 0 c197r0.eq_1 ?_;intros;refine gR2 7 10 c197r1.eq_1 @w1 ?_;intros;refine gR 10 11 c197r2.eq_1 ?_;intros;refine gC ?_;refine gbD (fun h1=>?_) (fun h1=>?_)
 ·intros;refine gR 0 0 c197r3.eq_1 ?_;intros;refine dy ?_;refine dA (dW none 5 1) ?_;refine dG (dL _ rfl Kl (dz dw) ?_);rw[jm,if_pos (by omega)];exact⟨_,rfl,[],.nil,rfl⟩
 obtain⟨k,hk⟩:∃ k,l.length=k+4:=⟨l.length - 4,by omega⟩;have hn:((l.length:Int) - 4)=(k:Int):=by omega
 obtain⟨w,hw⟩:∃ w,w=DZ (l.take k):=⟨_,rfl⟩;have hop:jm l=if l.drop k=mA w.toNat 4 then(l.take k,0)else([],20):=by rw[jm,if_neg (by omega),show l.length - 4=k by omega,← hw]
 have hd:(l.drop k).length=4:=by simp;omega
 have hng:=xA l k 4 (by omega) _ G hl;rw[kp,if_neg (by omega),List.take_of_length_le (by omega)]at hng;have hinj:=AE (a:=w) hd;have hpre:=SlV.pre k hl (by omega);have hsum:=Bt (l.take k) _ G hpre;rw[← hw]at hsum;unfold vW at hsum;obtain⟨x,hx⟩:∃ x,x=mj (l.drop k):=⟨_,rfl⟩;rw[← hx]at hng hinj;dsimp only at hng;rw[hn]
 have hbad:¬ l.drop k=mA w.toNat 4→∀ (fr:Kc) (e:Env) (G':J5),go none Tryz.prog 33 v197.1 v197.2 (gl o197 fun v h=>zy (jm l) h.L v) (Td.s ((SC.reg false c197r6).seq .ret) :: fr) e ⟨G',[],[]⟩:=fun hx fr e G'=>by
  intros;refine gR 0 0 c197r6.eq_1 ?_;intros;refine dy ?_;refine dA (dW none 5 1) ?_;refine dG (dL _ rfl Kl (dz dw) ?_);rw[hop,if_neg hx];exact⟨_,rfl,[],.nil,rfl⟩
 intros;refine gN ?_;intros;refine gR 12 18 c197r4.eq_1 ?_;refine fK (hng _ _) ?_;intros;refine gR 18 28 c197r5.eq_1 ?_;refine gd (fun h=>by simp at h) (fun _=>?_);refine sI ?_;refine⟨by omega,?_⟩;refine(hsum _ _).mono ?_;rintro r h' ⟨G1,rfl,hg1,rfl⟩;refine sJ @FT ?_;intros;refine gC ?_;refine gb (fun h2=>?_) (fun h2=>?_)
 ·have h2:=Kn h2;exact hbad (fun h=>h2 (by rw[hinj.2 h])) _ _ _
 have h2:l.drop k=mA w.toNat 4:=hinj.1 (by have:=Ko h2;omega);clear hbad;intros;refine gN ?_;intros;refine gR 29 33 c197r7.eq_1 ?_;refine⟨by omega,?_⟩;refine my (.inr ⟨⟨none,rfl⟩,rfl,rfl,rfl,rfl⟩) (SB.le hpre hg1) rfl UE1 (by simp;unfold maxLen;omega) fun ys A c hc=>?_
 simp only[Nat.zero_add,List.nil_append];refine sI ?_;intros;refine dy ?_;refine dG (dL _ rfl Kl (dz dw) ?_);rw[hop,if_pos h2];exact⟨_,rfl,ys,hc,rfl⟩
theorem F212:Fun Tryz.prog 212 18 v212 c212 o212:=Fun.mkA Tryz.func212 Tryz.ntmps212
theorem F198:Fun Tryz.prog 198 155 v198 c198 o198:=Fun.mkA Tryz.func198 Tryz.ntmps198
def nT(l:Kf):Nat→Option (Ki × Nat)
 | 0=>some ([],0)
 | k+1=>(nT l k).bind fun r=>if (fI l r.2).2.2=0 then some (r.1++[(fI l r.2).1],(fI l r.2).2.1.toNat)else none
def hX(l:Kf)(base stamp:Int)(p:Nat):Nat→Option (List Rec × Nat)
 | 0=>some ([],p)
 | k+1=>(hX l base stamp p k).bind fun r=>if (getR l r.2 base stamp).2.2=0 then some (r.1++[(getR l r.2 base stamp).1],(getR l r.2 base stamp).2.1.toNat)else none
def zt(rs:List Rec)(stamp:Int):Bool:=match rs with
 | []=>true
 | r :: _=>decide (r.stamp=stamp)
def mkB(ns:Ki)(m:UInt8)(rs:List Rec):Batch:=⟨ns.getD 0 0,ns.getD 0 0+ns.getD 1 0,ns.getD 2 0,ns.getD 3 0,ns.getD 4 0,ns.getD 5 0,ns.getD 6 0,decide (4≤m.toNat),((m.toNat % 4:Nat):Int),rs⟩
def pY(l:Kf)(ns:Ki)(m:UInt8)(many:Nat)(s:Int × Int × Int):Option Batch :=
 if s.2.2=0 then(hX l (ns.getD 0 0) s.1 s.2.1.toNat many).bind fun r=>if r.2=l.length∧zt r.1 s.1=true then some (mkB ns m r.1)else none else none
def nf(l:Kf)(ns:Ki)(m:UInt8)(v:Int × Int × Int):Option Batch :=
 if v.2.2=0∧0≤v.1∧v.1≤16 then pY l ns m v.1.toNat (if 0 < v.1 then fI l v.2.1 else(0,v.2.1,0))else none
def m8(w:Int)(l:Kf)(q:Ki × Nat):Option Batch :=
 (l[q.2]?).bind fun m=>if m.toNat < 8∧(0≤q.1.getD 0 0∧q.1.getD 0 0≤1099511627776)∧(0≤q.1.getD 1 0∧q.1.getD 1 0≤w)then nf l q.1 m (fI l ((q.2:Int)+1))else none
def fo(w:Int)(l:Kf):Option Batch:=(nT l 7).bind (m8 w l)
theorem qR{l:Kf}:∀ (j k:Nat),nT l k=none→nT l (k+j)=none
 | 0,_,h=>h
 | j+1,k,h=>by rw[← Nat.add_assoc,nT,qR j k h];rfl
theorem od{l:Kf}{base stamp:Int}{p:Nat}:∀ (j k:Nat),hX l base stamp p k=none→hX l base stamp p (k+j)=none
 | 0,_,h=>h
 | j+1,k,h=>by rw[← Nat.add_assoc,hX,od j k h];rfl
theorem wg{l:Kf}{base stamp:Int}{p many:Nat}{q:List Rec × Nat}(h:hX l base stamp p many=some q):∀ k,k≤many→∃ q2,hX l base stamp p k=some q2∧∃ t,q.1=q2.1++t:=by
 induction many generalizing q with
 | zero =>
  intro k hk;have:k=0:=by omega
  subst this;exact⟨q,h,[],by simp⟩
 | succ n ih =>
  intro k hk;by_cases hkn:k=n+1
  ·subst hkn;exact⟨q,h,[],by simp⟩
  ·rw[hX]at h;cases hn:hX l base stamp p n with
   | none=>rw[hn]at h;cases h
   | some q1 =>
    rw[hn]at h;simp only[Option.bind_some]at h;split at h
    ·cases h;obtain⟨q2,h2,t,ht⟩:=ih hn k (by omega);exact⟨q2,h2,t++[_],by dsimp only;rw[ht,append_assoc]⟩
    ·cases h
theorem mQ(l:Kf)(a:Int)(ok:Bool)(b1 b3 b4:Nat)(v:Value)(G:J5)(hl:SB G v l)(h1:eZ G ⟨b1,0,none⟩=some v):
  FnO Tryz.prog 212 #[.pointer (some ⟨b1,0,none⟩),.pointer (some ⟨b4,0,none⟩),.pointer (some ⟨b3,0,none⟩)] G [.blk b4 [.int .i64 a],.blk b3 [.bool ok]]
   (fun G' L' r=>G=G'∧r=.int .i64 (if (fI l a).2.2=0 then(fI l a).1 else 0)∧L'=[.blk b4 [.int .i64 (if (fI l a).2.2=0 then(fI l a).2.1 else a)],.blk b3 [.bool (if (fI l a).2.2=0 then ok else false)]]):=by
 refine F212.fnO (by simp) (dF (dF dw)) (dI ?_);unfold c212;have hgv:=kW l a v G hl;intros;refine gR 0 0 c212r0.eq_1 ?_;intros;refine gR 7 14 c212r1.eq_1 ?_;refine⟨_,⟨_,rfl,.g h1⟩,?_⟩;refine sI ?_;refine⟨_,dH (.head _) rfl,?_⟩;refine fK (hgv _ _) ?_;intros;refine gR 14 15 c212r2.eq_1 ?_;intros;refine gC ?_;refine gb (fun k1=>?_) (fun k1=>?_)
 ·have k1:=Kn k1;intros;refine gR 0 0 c212r3.eq_1 ?_;refine dM [_] [] rfl (by simp) ⟨rfl,rfl⟩ ?_;refine sI ?_;intros;refine gR 0 0 c212r4.eq_1 ?_;intros;refine dy ?_;refine dG (dL _ rfl Kl (dF (dF dw)) ?_);rw[if_neg k1,if_neg k1,if_neg k1];exact⟨rfl,rfl,rfl⟩
 ·have k1:(fI l a).2.2=0:=by simpa using k1
  intros;refine gN ?_;intros;refine gR 16 17 c212r5.eq_1 ?_;refine dM [] [_] rfl (by simp) ⟨rfl,rfl⟩ ?_;refine sI ?_;intros;refine gR 17 18 c212r6.eq_1 ?_;intros;refine dy ?_;refine dG (dL _ rfl Kl (dF (dF dw)) ?_);rw[if_pos k1,if_pos k1,if_pos k1];exact⟨rfl,rfl,rfl⟩
def tS(ns:Ki):J6:=ns.map fun n=>.int .i64 n
theorem uo{zs:Ki}{k:Nat}{x:Int}(hk:k < zs.length):splice (tS zs) k [.int .i64 x]=tS (zs.set k x):=by
 rw[wk _ (by simpa [tS]using hk)];simp[tS]
theorem zL{zs:Ki}{k:Nat}{x:Int}(hk:k < zs.length):(zs.set k x).take (k+1)=zs.take k++[x]:=by
 rw[List.take_succ_eq_append_getElem (by simpa using hk),List.take_set_of_le (Nat.le_refl _)];simp
theorem Ir{x:UInt8}(h:x.toNat < 8):ff .and (.int .u8 (x.toNat:Int)) (.int .u8 4)=some (.int .u8 (if 4≤x.toNat then 4 else 0)):=by
 have key:∀ b:Fin 8,(BitVec.ofInt 8 ((b.val:Nat):Int) &&& BitVec.ofInt 8 4).toNat=if 4≤b.val then 4 else 0:=by decide +kernel
 have h2:=key ⟨x.toNat,h⟩;simp only[ff];rw[if_pos trivial];have h3:(BitVec.ofInt IntKind.u8.bits (x.toNat:Int) &&& BitVec.ofInt IntKind.u8.bits 4).toNat=if 4≤x.toNat then 4 else 0:=h2
 rw[h3];split <;> rfl
theorem Ae{x:UInt8}(h:x.toNat < 8):ff .andNot (.int .u8 (x.toNat:Int)) (.int .u8 4)=some (.int .u8 ((x.toNat % 4:Nat):Int)):=by
 have key:∀ b:Fin 8,(BitVec.ofInt 8 ((b.val:Nat):Int) &&& ~~~ BitVec.ofInt 8 4).toNat=b.val % 4:=by decide +kernel
 have h2:=key ⟨x.toNat,h⟩;simp only[ff];rw[if_pos trivial];have h3:(BitVec.ofInt IntKind.u8.bits (x.toNat:Int) &&& ~~~ BitVec.ofInt IntKind.u8.bits 4).toNat=x.toNat % 4:=h2;rw[h3,IntKind.wrap_u8];congr 2;omega
def tK(w:Int)(l:Kf)(G:J5)(r:Value):Prop:=∃ x cs ok,r=.tuple #[.agg cs.toArray,.bool ok]∧BE G x cs∧(if ok=true then fo w l=some x else fo w l=none)
theorem BE.zero{G:J5}:BE G ⟨0,0,0,0,0,0,0,false,0,[]⟩ [.int .i64 0,.int .i64 0,.int .i64 0,.int .i64 0,.int .i64 0,.int .i64 0,.int .i64 0,.bool false,.int .i64 0,.slice none 0 0]:=⟨none,0,rfl,⟨Nat.le_refl _,Nat.zero_le _,fun i x hx=>by simp at hx⟩,by decide,by decide,by decide,by decide,by decide,by decide,by decide,by decide⟩
theorem Gk(l:Kf)(a:Int):I64 (if (fI l a).2.2=0 then(fI l a).1 else 0):=by
 split
 ·rename_i h;obtain⟨_,_,_,_,_,h⟩:=l0 h;exact h
 ·decide
theorem yu{α:Type}{E:α→J6→Prop}{P:Program}{h:H}{d sz et nb:Nat}{l:J7}{e:Env}{K:Kj}{u:Value}{b:Nat}{zs:List α}{zc cs:J6}{L1 L2:J8}{x:α}(hL:h.L=.row (.slice (some ⟨b,0,none⟩) 1 1) et sz 1 cs :: L1++.row u et sz zs.length zc :: L2)
  (hE:E x cs) (hl:cs.length=sz) (h1:∀ u∈cs,u.oneCell'=true) (hc:Cells E sz zs zc) (hz:zs.length≤1000000) (hnb:nb≤1000)
  (hk:∀ A' c' zc',Cells E sz (zs++[x]) zc'→kR P l d e K (.slice A' (zs++[x]).length c') ⟨h.G,.row (.slice (some ⟨b,0,none⟩) 1 1) et sz 1 cs :: L1++.row (.slice A' (zs++[x]).length c') et sz (zs++[x]).length zc' :: L2,h.D⟩) :
  apX P u (.slice (some ⟨b,0,none⟩) 1 1) et sz nb d l e h K:=by
 refine⟨.row (.slice (some ⟨b,0,none⟩) 1 1) et sz 1 cs :: L1,zs.length,zc,L2,1,cs,.inl hL,kX (h:=h) (by rw[hL];exact .head _) h1 (by rw[hl,Nat.one_mul]),⟨?_,by unfold maxLen;omega⟩,fun A' c'=>?_⟩
 ·have:(zs.length+1) * nb≤1000001 * 1000:=Nat.mul_le_mul (by omega) hnb;omega
 ·have:=hk A' c' (zc++cs) (hc.app (.one hE hl));simp only[length_append,length_cons,List.length_nil,Nat.zero_add]at this;exact this
theorem C2(l:Kf)(a base stamp:Int):RR (getR l a base stamp).1 (ia (getR l a base stamp).1):=by
 have hz:RR kZ (ia kZ):=⟨rfl,⟨by decide,by decide⟩,by decide,by decide⟩;unfold getR;split
 ·split
  ·split
   ·rename_i h;obtain⟨⟨h1,h2⟩,h3,h4⟩:=fN h;simp[inO]at h1 h2;refine⟨rfl,⟨?_,?_⟩,?_,?_⟩
    ·dsimp only;unfold I64;omega
    ·dsimp only;unfold I64;omega
    ·dsimp only;unfold maxLen;omega
    ·dsimp only;unfold maxLen;omega
   ·exact hz
  ·exact hz
 ·exact hz
theorem Cl(l:Kf)(a most:Int):0≤(lJ l a most).2.1:=by
 have:=nt l a;unfold lJ;split
 ·split
  ·simp
  ·split
   ·simp
   ·split
    ·simp
    ·dsimp only;omega
 ·simp
theorem Dn(l:Kf)(a base stamp:Int):0≤(getR l a base stamp).2.1:=by
 unfold getR;split
 ·split
  ·rename_i h5;split
   ·dsimp only;unfold g5 nx at h5 ⊢;split
    ·exact Cl _ _ _
    ·rename_i h4;rw[if_neg h4]at h5;exact absurd h5 h4
   ·simp
  ·simp
 ·simp
set_option maxHeartbeats 2000000 in
theorem yC(l:Kf)(v:Value)(G:J5)(hl:SB G v l)(hb:l.length≤1000000):FnD Tryz.prog 198 #[v] G (tK 15 l):=by
 refine F198.fnD (by simp) (dI ?_);have hl00:=hl;obtain⟨A,c,rfl,hc,hm,hA⟩:=hl;unfold c198;intros;refine gR 0 0 c198r0.eq_1 ?_;intro b1 hb1;refine sI ?_;intro b3 hb3;refine sI ?_;intros;refine gR 0 0 c198r1.eq_1 ?_;intro b4 hb4;refine sI ?_;refine dM [] [_,_,_] rfl (by simp) ⟨rfl,rfl⟩ ?_;refine sI ?_;intros;refine gR 0 0 c198r2.eq_1 ?_;refine dM [_] [_,_] rfl (by simp) ⟨rfl,rfl⟩ ?_;refine sI ?_
 intros;refine gR 15 16 c198r3.eq_1 ?_;intros;refine gR 0 0 c198r4.eq_1 ?_;intro b6 hb6;refine sI ?_;intros;refine gR 0 0 c198r5.eq_1 ?_;intros;refine gN ?_;refine ei (eg [_,_,_,_] []) ?_;rintro h' ⟨G1,rfl,hg1,hcell⟩;have h1:eZ G1 ⟨b1,0,none⟩=some (.slice A l.length c):=by have:=hcell 0 _ rfl;rwa [gL]at this
 clear hcell;have hl1:=SB.le hl00 hg1;refine dA (ee (L':=[.blk b4 [.int .i64 0],.blk b3 [.bool true],.blk b6 (tS [0,0,0,0,0,0,0]),.reg 2 [.int .i64 0,.int .i64 0,.int .i64 0,.int .i64 0,.int .i64 0,.int .i64 0,.int .i64 0,.bool false,.int .i64 0,.slice none 0 0]]) ((List.Perm.swap _ _ _).trans (List.Perm.cons _ (List.Perm.swap _ _ _)))) ?_;have hrest:∀ (e:Env),True:=fun _=>trivial
 refine ez (fun e h=>∃ (ns:Ki) (a:Int) (ok:Bool),(ns.length=7∧(∀ z∈ns,I64 z)∧((ok=true∧0≤a∧nT l 7=some (ns,a.toNat))∨(ok=false∧nT l 7=none))) ∧
  (e 1=.pointer (some ⟨b1,0,none⟩)∧e 3=.pointer (some ⟨b3,0,none⟩)∧e 4=.pointer (some ⟨b4,0,none⟩)∧e 6=.pointer (some ⟨b6,0,none⟩)∧e 5=.func (.func 212) #[] #[.pointer (some ⟨b1,0,none⟩),.pointer (some ⟨b4,0,none⟩),.pointer (some ⟨b3,0,none⟩)]) ∧
  h=⟨G1,[.blk b4 [.int .i64 a],.blk b3 [.bool ok],.blk b6 (tS ns),.reg 2 [.int .i64 0,.int .i64 0,.int .i64 0,.int .i64 0,.int .i64 0,.int .i64 0,.int .i64 0,.bool false,.int .i64 0,.slice none 0 0]],[]⟩) ?_ ?_
 ·intros;refine dy ?_;refine dV (fun e h=>∃ (k:Nat) (zs:Ki) (a:Int) (ok:Bool),(k≤7∧zs.length=7∧(∀ z∈zs,I64 z)∧((ok=true∧0≤a∧nT l k=some (zs.take k,a.toNat))∨(ok=false∧nT l 7=none)))∧e 16=.int .i64 k ∧
   e 1=.pointer (some ⟨b1,0,none⟩)∧e 3=.pointer (some ⟨b3,0,none⟩)∧e 4=.pointer (some ⟨b4,0,none⟩)∧e 6=.pointer (some ⟨b6,0,none⟩)∧e 5=.func (.func 212) #[] #[.pointer (some ⟨b1,0,none⟩),.pointer (some ⟨b4,0,none⟩),.pointer (some ⟨b3,0,none⟩)] ∧
   h=⟨G1,[.blk b4 [.int .i64 a],.blk b3 [.bool ok],.blk b6 (tS zs),.reg 2 [.int .i64 0,.int .i64 0,.int .i64 0,.int .i64 0,.int .i64 0,.int .i64 0,.int .i64 0,.bool false,.int .i64 0,.slice none 0 0]],[]⟩) (fun e h=>7 - iv (e 16)) ?_ ?_
  ·exact⟨0,[0,0,0,0,0,0,0],0,true,⟨Nat.zero_le _,rfl,by decide,.inl ⟨rfl,by omega,rfl⟩⟩,eE,eE,eE,eE,eE,eE,rfl⟩
  ·rintro e h ⟨k,zs,a,ok,⟨hk,hzl,hzi,hst⟩,e16,e1,e3,e4,e6,e5,rfl⟩;refine dC [1,3,4,5,6,16] ?_;refine sJ6 @e1 @e3 @e4 @e5 @e6 @e16 ?_;intros;refine gR 0 0 c198r6.eq_1 ?_;intros;refine gC ?_;refine gb (fun ht=>?_) (fun ht=>?_)
   ·have hk7:k < 7:=by have:=Kn ht;omega
    have hw:=fi k 7 hk7 (by unfold maxLen;omega);have hi:=Gk l a;intros;refine gN ?_;intros;refine gR 18 19 c198r7.eq_1 ?_;intros;refine gR 19 23 c198r8.eq_1 ?_;refine .inl ⟨_,_,rfl,?_⟩;refine(mQ l a ok b1 b3 b4 _ G1 hl1 h1 _ []).mono ?_;rintro r h' ⟨G',L',rfl,-,rfl,rfl,rfl⟩;refine sI ?_;refine⟨by omega,?_⟩;rw[show 0+k * 1=k by omega];refine dM [_,_] [_] rfl (by simp[tS];omega) ⟨rfl,rfl⟩ ?_
    simp only[List.cons_append,List.nil_append];rw[uo (by omega)];refine sI ?_;intros;refine gR2 23 24 c198r9.eq_1 @hw ?_;intros;refine dy ?_;refine ej ⟨⟨k+1,zs.set k (if (fI l a).2.2=0 then(fI l a).1 else 0),(if (fI l a).2.2=0 then(fI l a).2.1 else a),(if (fI l a).2.2=0 then ok else false),⟨by omega,by simp[hzl],fun z hz=>?_,?_⟩,eE,eE,eE,eE,eE,eE,rfl⟩,?_⟩
    ·rcases List.mem_or_eq_of_mem_set hz with h | h
     ·exact hzi z h
     ·rw[h];exact hi
    ·rcases hst with⟨h1,h2,h3⟩ | ⟨h1,h2⟩
     ·by_cases hv:(fI l a).2.2=0
      ·rw[if_pos hv,if_pos hv,if_pos hv];refine .inl ⟨h1,nt l a,?_⟩;rw[nT,h3,zL (by omega)];simp only[Option.bind_some];rw[Int.toNat_of_nonneg h2,if_pos hv]
      ·rw[if_neg hv,if_neg hv,if_neg hv];refine .inr ⟨rfl,?_⟩;have:nT l (k+1)=none:=by
        rw[nT,h3];simp only[Option.bind_some];rw[Int.toNat_of_nonneg h2,if_neg hv]
       have:=qR (7 - (k+1)) (k+1) this
       rwa [show k+1+(7 - (k+1))=7 by omega]at this
     ·refine .inr ⟨?_,h2⟩;rw[h1];split <;> rfl
    ·refine sI ?_;omega
   ·have hk7:k=7:=by have:=Ko ht;omega
    subst hk7;rw[List.take_of_length_le (by omega)]at hst;refine dS ?_;refine sI ?_;exact ej ⟨zs,a,ok,⟨hzl,hzi,hst⟩,⟨eE,eE,eE,eE,eE⟩,rfl⟩
 rintro e h ⟨ns,a,ok,⟨hnl,hni,hst⟩,⟨e1,e3,e4,e6,e5⟩,rfl⟩;refine dC [1,3,4,5,6] ?_;refine sJ5 @e1 @e3 @e4 @e5 @e6 ?_
 have hbad:∀ (fr:Kc) (e:Env) (a:Int) (ok:Bool),fo 15 l=none→e 3=.pointer (some ⟨b3,0,none⟩)→go none Tryz.prog 155 v198.1 v198.2 (gl o198 fun v h=>tK 15 l h.G v) (Td.s ((SC.reg false c198r11).seq .ret) :: fr) e ⟨G1,[.blk b4 [.int .i64 a],.blk b3 [.bool ok],.blk b6 (tS ns),.reg 2 [.int .i64 0,.int .i64 0,.int .i64 0,.int .i64 0,.int .i64 0,.int .i64 0,.int .i64 0,.bool false,.int .i64 0,.slice none 0 0]],[]⟩:=fun fr e a ok hx e3=>by
  refine dC [3] ?_;refine sJ @e3 ?_;intros;refine gR 59 60 c198r11.eq_1 ?_;refine dM [_] [_,_] rfl (by simp) ⟨rfl,rfl⟩ ?_;refine sI ?_;intros;refine dy ?_;refine dA (dE (L':=[.blk b3 [.bool false],.reg 2 [.int .i64 0,.int .i64 0,.int .i64 0,.int .i64 0,.int .i64 0,.int .i64 0,.int .i64 0,.bool false,.int .i64 0,.slice none 0 0]]) (.cons _ (.cons_cons _ (.cons _ Kl)))) ?_
  refine dG (jS (out:=[.agg #[.int .i64 0,.int .i64 0,.int .i64 0,.int .i64 0,.int .i64 0,.int .i64 0,.int .i64 0,.bool false,.int .i64 0,.slice none 0 0],.bool false]) ?_ ?_)
  ·simp[o198,mc,Kx.getR,getB,u4,ldC,Env.set]
  ·refine⟨_,_,false,rfl,BE.zero,?_⟩;exact hx
 obtain⟨n0,n1,n2,n3,n4,n5,n6,rfl⟩:∃ n0 n1 n2 n3 n4 n5 n6:Int,ns=[n0,n1,n2,n3,n4,n5,n6]:=by
  match ns,hnl with
  | [n0,n1,n2,n3,n4,n5,n6],_=>exact⟨n0,n1,n2,n3,n4,n5,n6,rfl⟩
 have m3:∀ {x y z u:Kx.Item} {L:J8},z∈x :: y :: z :: u :: L:=.tail _ (.tail _ (.head _));have m2:∀ {x y z u:Kx.Item} {L:J8},y∈x :: y :: z :: u :: L:=.tail _ (.head _);have hA1:=hA.le hg1 (E':=UE) Kp;unfold maxLen at hm;intros;try refine dx ?_
 refine ez (fun e h=>∃ (p:Nat) (m:UInt8),(nT l 7=some ([n0,n1,n2,n3,n4,n5,n6],p)∧l[p]?=some m∧m.toNat < 8∧(0≤n0∧n0≤1099511627776)∧0≤n1∧n1≤15) ∧
  (e 1=.pointer (some ⟨b1,0,none⟩)∧e 3=.pointer (some ⟨b3,0,none⟩)∧e 4=.pointer (some ⟨b4,0,none⟩)∧e 6=.pointer (some ⟨b6,0,none⟩)∧e 5=.func (.func 212) #[] #[.pointer (some ⟨b1,0,none⟩),.pointer (some ⟨b4,0,none⟩),.pointer (some ⟨b3,0,none⟩)]) ∧
  h=⟨G1,[.blk b4 [.int .i64 (p:Int)],.blk b3 [.bool true],.blk b6 (tS [n0,n1,n2,n3,n4,n5,n6]),.reg 2 [.int .i64 0,.int .i64 0,.int .i64 0,.int .i64 0,.int .i64 0,.int .i64 0,.int .i64 0,.bool false,.int .i64 0,.slice none 0 0]],[]⟩) ?_ ?_
 ·intros;refine gR 24 58 c198r10.eq_1 ?_;refine⟨_,dH m2 rfl,?_⟩;refine sI ?_;refine gd (fun k0=>?_) (fun k0=>?_)
  ·have k0:ok=false:=by simpa using k0
   refine sI ?_;intros;refine gC ?_;rcases hst with⟨h,_⟩ | ⟨_,h⟩
   ·rw[h]at k0;cases k0
   ·refine hbad _ _ _ _ (by rw[fo,h];rfl) (eE)
  have k0:ok=true:=by simpa using k0
  subst k0;rcases hst with⟨-,ha,hnum⟩ | ⟨h,_⟩
  rotate_left
  ·cases h
  obtain⟨p,rfl⟩:∃ p:Nat,a=p:=⟨a.toNat,by omega⟩;rw[Int.toNat_natCast]at hnum;have hb2:m8 15 l ([n0,n1,n2,n3,n4,n5,n6],p)=none→fo 15 l=none:=fun h=>by rw[fo,hnum];exact h
  refine sI ?_;refine⟨_,dH (.head _) rfl,?_⟩;refine sI ?_;refine⟨_,⟨_,rfl,.g h1⟩,?_⟩;refine sI ?_;refine gdD (fun k1=>?_) (fun k1=>?_)
  ·refine sI ?_;intros;refine gC ?_;refine hbad _ _ _ _ (hb2 ?_) (eE);rw[m8,List.getElem?_eq_none (by dsimp only;omega)];rfl
  obtain⟨m,hy⟩:∃ m,l[p]?=some m:=⟨l[p]'(by omega),getElem?_eq_getElem _⟩;have hb3:¬ (m.toNat < 8∧(0≤n0∧n0≤1099511627776)∧(0≤n1∧n1≤15))→fo 15 l=none:=fun h=>hb2 (by
   rw[m8,hy]
   simp only[Option.bind_some]
   exact if_neg h)
  refine sI ?_;refine⟨_,⟨_,rfl,.g h1⟩,?_⟩;refine sI ?_;refine⟨_,dH (.head _) rfl,?_⟩;refine sI ?_;refine hA1.x_l1 hy rfl rfl ?_;rintro a1 ha1 u hu;cases hu;refine sI ?_;refine gdD (fun k2=>?_) (fun k2=>?_)
  ·refine sI ?_;intros;refine gC ?_;exact hbad _ _ _ _ (hb3 fun h=>by omega) (eE)
  refine sI ?_;refine⟨by omega,?_⟩;refine⟨_,dH (o:=0) m3 rfl,?_⟩;refine sI ?_;refine gdD (fun k3=>?_) (fun k3=>?_)
  ·refine sI ?_;intros;refine gC ?_;exact hbad _ _ _ _ (hb3 fun h=>by omega) (eE)
  refine sI ?_;refine⟨by omega,?_⟩;refine⟨_,dH (o:=0) m3 rfl,?_⟩;refine sI ?_;refine gdD (fun k4=>?_) (fun k4=>?_)
  ·refine sI ?_;intros;refine gC ?_;exact hbad _ _ _ _ (hb3 fun h=>by omega) (eE)
  refine sI ?_;refine⟨by omega,?_⟩;refine⟨_,dH (o:=1) m3 rfl,?_⟩;refine sI ?_;refine gdD (fun k5=>?_) (fun k5=>?_)
  ·refine sI ?_;intros;refine gC ?_;exact hbad _ _ _ _ (hb3 fun h=>by omega) (eE)
  refine sI ?_;refine⟨by omega,?_⟩;refine⟨_,dH (o:=1) m3 rfl,?_⟩;refine sI ?_;intros;refine gC ?_;refine gbD (fun k6=>?_) (fun k6=>?_)
  ·exact hbad _ _ _ _ (hb3 fun h=>by omega) (eE)
  intros;refine dy ?_;exact ej ⟨p,m,⟨hnum,hy,by omega,by omega,by omega,by omega⟩,⟨eE,eE,eE,eE,eE⟩,rfl⟩
 clear hbad hst;rintro e h ⟨p,m,⟨hnum,hy,hm8,hn0,hn1,hn1'⟩,⟨e1,e3,e4,e6,e5⟩,rfl⟩;have hpl:=(List.getElem?_eq_some_iff.1 hy).1;have hb3:fo 15 l=nf l [n0,n1,n2,n3,n4,n5,n6] m (fI l ((p:Int)+1)):=by
  rw[fo,hnum];simp only[Option.bind_some];rw[m8,hy];simp only[Option.bind_some];exact if_pos ⟨hm8,hn0,hn1,hn1'⟩
 refine dC [1,3,4,5,6] ?_;refine sJ5 @e1 @e3 @e4 @e5 @e6 ?_;have wp:=fi p l.length hpl (by unfold maxLen;omega);have wl:IntKind.i64.wrap (n0+n1)=n0+n1:=by rw[dX] <;> omega
 intros;refine gR 60 64 c198r12.eq_1 ?_;refine⟨_,⟨_,rfl,.g h1⟩,?_⟩;refine sI ?_;refine⟨_,dH (.head _) rfl,?_⟩;refine sI ?_;refine hA1.x_l1 hy rfl rfl ?_;rintro a1 ha1 u hu;cases hu;refine sI ?_;intros;refine gR 64 66 c198r13.eq_1 ?_;refine⟨_,dH (.head _) rfl,?_⟩;refine sJ @wp ?_;refine dM [] [_,_,_] rfl (by simp) ⟨rfl,rfl⟩ ?_;refine sI ?_;intros;refine gR 66 90 c198r14.eq_1 ?_;refine⟨by omega,?_⟩
 refine⟨_,dH (o:=0) m3 rfl,?_⟩;refine sI ?_;refine⟨by omega,?_⟩;refine⟨_,dH (o:=0) m3 rfl,?_⟩;refine sI ?_;refine⟨by omega,?_⟩;refine⟨_,dH (o:=1) m3 rfl,?_⟩;refine sJ @wl ?_;refine⟨by omega,?_⟩;refine⟨_,dH (o:=2) m3 rfl,?_⟩;refine sI ?_;refine⟨by omega,?_⟩;refine⟨_,dH (o:=3) m3 rfl,?_⟩;refine sI ?_;refine⟨by omega,?_⟩;refine⟨_,dH (o:=4) m3 rfl,?_⟩;refine sI ?_;refine⟨by omega,?_⟩
 refine⟨_,dH (o:=5) m3 rfl,?_⟩;refine sI ?_;refine⟨by omega,?_⟩;refine⟨_,dH (o:=6) m3 rfl,?_⟩;have htx:decide ((if 4≤m.toNat then(4:Int)else 0)≠0)=decide (4≤m.toNat):=by split <;> simp_all
 have hct:IntKind.i64.wrap ((m.toNat % 4:Nat):Int)=((m.toNat % 4:Nat):Int):=by rw[dX] <;> omega
 have hmk:∀ rs,mkB [n0,n1,n2,n3,n4,n5,n6] m rs=⟨n0,n0+n1,n2,n3,n4,n5,n6,decide (4≤m.toNat),((m.toNat % 4:Nat):Int),rs⟩:=fun _=>rfl
 have hcti:I64 ((m.toNat % 4:Nat):Int):=by unfold I64;omega
 generalize decide (4≤m.toNat)=tx at htx hmk;have han:=Ae hm8;generalize ((m.toNat % 4:Nat):Int)=ct at hct hmk hcti han
 (try simp -implicitDefEqProofs only[nG,nH,push_cast,Nat.reduceBEq,Nat.reduceAdd,Nat.reduceSub,Nat.reduceMul,Nat.reduceLT,Nat.reduceLeDiff,Nat.reduceEqDiff,reduceIte,Bool.not_true,Bool.not_false,true_and,and_true,Option.map_some,Option.bind_some,Int.toNat_natCast,Ir hm8,han,htx,hct])
 have m2':∀ {x y z u:Kx.Item} {L:J8},y∈x :: y :: z :: u :: L:=.tail _ (.head _);have hi7:I64 n0∧I64 (n0+n1)∧I64 n2∧I64 n3∧I64 n4∧I64 n5∧I64 n6:=⟨hni _ (by simp),by unfold I64;omega,hni _ (by simp),hni _ (by simp),hni _ (by simp),hni _ (by simp),hni _ (by simp)⟩
 -- how many records
 intros;refine gR 90 92 c198r15.eq_1 ?_;refine .inl ⟨_,_,rfl,?_⟩;refine(mQ l ((p:Int)+1) true b1 b3 b4 _ G1 hl1 h1 _ []).mono ?_;rintro r h' ⟨G',L',rfl,-,rfl,rfl,rfl⟩;have hvok:=@l0 l ((p:Int)+1);generalize fI l ((p:Int)+1)=v at hb3 hvok;refine sI ?_
 have hbad:∀ (fr:Kc) (e:Env) (a:Int) (ok:Bool),fo 15 l=none→e 3=.pointer (some ⟨b3,0,none⟩)→go none Tryz.prog 155 v198.1 v198.2 (gl o198 fun v h=>tK 15 l h.G v) (Td.s ((SC.reg false c198r17).seq .ret) :: fr) e ⟨G1,[.blk b4 [.int .i64 a],.blk b3 [.bool ok],.blk b6 (tS [n0,n1,n2,n3,n4,n5,n6]),.reg 2 [.int .i64 n0,.int .i64 (n0+n1),.int .i64 n2,.int .i64 n3,.int .i64 n4,.int .i64 n5,.int .i64 n6,.bool tx,.int .i64 ct,.slice none 0 0]],[]⟩:=fun fr e a ok hx e3=>by
  refine dC [3] ?_;refine sJ @e3 ?_;intros;refine gR 102 103 c198r17.eq_1 ?_;refine dM [_] [_,_] rfl (by simp) ⟨rfl,rfl⟩ ?_;refine sI ?_;intros;refine dy ?_;refine dA (dE (L':=[.blk b3 [.bool false],.reg 2 [.int .i64 0,.int .i64 0,.int .i64 0,.int .i64 0,.int .i64 0,.int .i64 0,.int .i64 0,.bool false,.int .i64 0,.slice none 0 0]]) (.cons _ (.cons_cons _ (.cons _ Kl)))) ?_
  refine dG (jS (out:=[.agg #[.int .i64 0,.int .i64 0,.int .i64 0,.int .i64 0,.int .i64 0,.int .i64 0,.int .i64 0,.bool false,.int .i64 0,.slice none 0 0],.bool false]) ?_ ?_)
  ·simp[o198,mc,Kx.getR,getB,u4,ldC,Env.set]
  ·exact⟨_,_,false,rfl,BE.zero,hx⟩
 intros;try refine dx ?_
 refine ez (fun e h=>(v.2.2=0∧0≤v.1∧v.1≤16)∧(e 1=.pointer (some ⟨b1,0,none⟩)∧e 3=.pointer (some ⟨b3,0,none⟩)∧e 4=.pointer (some ⟨b4,0,none⟩)∧e 5=.func (.func 212) #[] #[.pointer (some ⟨b1,0,none⟩),.pointer (some ⟨b4,0,none⟩),.pointer (some ⟨b3,0,none⟩)])∧e 9=.int .i64 v.1∧h=⟨G1,[.blk b4 [.int .i64 v.2.1],.blk b3 [.bool true],.blk b6 (tS [n0,n1,n2,n3,n4,n5,n6]),.reg 2 [.int .i64 n0,.int .i64 (n0+n1),.int .i64 n2,.int .i64 n3,.int .i64 n4,.int .i64 n5,.int .i64 n6,.bool tx,.int .i64 ct,.slice none 0 0]],[]⟩) ?_ ?_
 ·by_cases hv0:v.2.2=0
  ·have hbn:¬ (0≤v.1∧v.1≤16)→fo 15 l=none:=fun h=>by rw[hb3,nf,if_neg fun hc=>h hc.2]
   rw[if_pos hv0,if_pos hv0,if_pos hv0];intros;refine gR 92 101 c198r16.eq_1 ?_;refine⟨_,dH m2' rfl,?_⟩;refine sI ?_;refine gdD (fun k1=>?_) (fun k1=>?_)
   ·refine sI ?_;intros;refine gC ?_;exact hbad _ _ _ _ (hbn fun h=>by omega) (eE)
   refine sI ?_;intros;refine gC ?_;refine gbD (fun k2=>?_) (fun k2=>?_)
   ·exact hbad _ _ _ _ (hbn fun h=>by omega) (eE)
   intros;refine dy ?_;exact ej ⟨⟨hv0,by omega,by omega⟩,⟨eE,eE,eE,eE⟩,eE,rfl⟩
  ·rw[if_neg hv0,if_neg hv0,if_neg hv0];intros;refine gR 92 101 c198r16.eq_1 ?_;refine⟨_,dH m2' rfl,?_⟩;refine sI ?_;intros;refine gC ?_;exact hbad _ _ _ _ (by rw[hb3,nf,if_neg fun hc=>hv0 hc.1]) (eE)
 clear hbad;rintro e h ⟨⟨hv0,hv1,hv2⟩,⟨e1,e3,e4,e5⟩,e9,rfl⟩;obtain⟨many,hmany⟩:∃ n:Nat,v.1=n:=⟨v.1.toNat,by omega⟩;obtain⟨pv,-,hv21,-,hpv,-⟩:=hvok hv0;rw[hmany]at e9;have hpn:0≤v.2.1:=by omega
 have hb4:fo 15 l=pY l [n0,n1,n2,n3,n4,n5,n6] m many (if 0 < many then fI l v.2.1 else(0,v.2.1,0)):=by
  rw[hb3,nf,if_pos ⟨hv0,hv1,hv2⟩,hmany];simp only[Int.toNat_natCast];congr 1;by_cases h:0 < many
  ·rw[if_pos h,if_pos (by omega)]
  ·rw[if_neg h,if_neg (by omega)]
 refine dC [1,3,4,5,9] ?_;refine sJ5 @e1 @e3 @e4 @e5 @e9 ?_;have hmany16:many≤16:=by omega
 generalize v.2.1=p2 at hb4 hpn;clear hb3 hvok hv21 hpv;intros;refine gR 0 0 c198r18.eq_1 ?_;intros;try refine dx ?_
 refine ez (fun e h=>∃ (s:Int × Int × Int),(s=(if 0 < many then fI l p2 else(0,p2,0)))∧(e 1=.pointer (some ⟨b1,0,none⟩)∧e 3=.pointer (some ⟨b3,0,none⟩)∧e 4=.pointer (some ⟨b4,0,none⟩)∧e 5=.func (.func 212) #[] #[.pointer (some ⟨b1,0,none⟩),.pointer (some ⟨b4,0,none⟩),.pointer (some ⟨b3,0,none⟩)])∧e 9=.int .i64 (many:Int)∧e 10=.int .i64 (if s.2.2=0 then s.1 else 0)∧h=⟨G1,[.blk b4 [.int .i64 (if s.2.2=0 then s.2.1 else p2)],.blk b3 [.bool (if s.2.2=0 then true else false)],.blk b6 (tS [n0,n1,n2,n3,n4,n5,n6]),.reg 2 [.int .i64 n0,.int .i64 (n0+n1),.int .i64 n2,.int .i64 n3,.int .i64 n4,.int .i64 n5,.int .i64 n6,.bool tx,.int .i64 ct,.slice none 0 0]],[]⟩) ?_ ?_
 ·intros;refine gR 103 104 c198r19.eq_1 ?_;intros;refine gC ?_;refine gbD (fun k1=>?_) (fun k1=>?_)
  ·intros;refine gR 105 107 c198r20.eq_1 ?_;refine .inl ⟨_,_,rfl,?_⟩;refine(mQ l p2 true b1 b3 b4 _ G1 hl1 h1 _ []).mono ?_;rintro r h' ⟨G',L',rfl,-,rfl,rfl,rfl⟩;refine sI ?_;intros;refine dy ?_;exact ej ⟨fI l p2,by rw[if_pos (by omega)],⟨eE,eE,eE,eE⟩,eE,eE,rfl⟩
  ·intros;refine dy ?_;exact ej ⟨(0,p2,0),by rw[if_neg (by omega)],⟨eE,eE,eE,eE⟩,eE,eE,rfl⟩
 rintro e h ⟨s,hs,⟨e1,e3,e4,e5⟩,e9,e10,rfl⟩;rw[← hs]at hb4;have hsn:0≤s.2.1:=by
  rw[hs];split
  ·exact nt _ _
  ·exact hpn
 clear hs;refine dC [1,3,4,9,10] ?_;refine sJ5 @e1 @e3 @e4 @e9 @e10 ?_;have hb5:fo 15 l=if s.2.2=0 then(hX l n0 s.1 s.2.1.toNat many).bind fun r=>if r.2=l.length∧zt r.1 s.1=true then some (mkB [n0,n1,n2,n3,n4,n5,n6] m r.1)else none else none:=hb4
 clear hb4;obtain⟨st,hst⟩:∃ st,st=(if s.2.2=0 then s.1 else 0):=⟨_,rfl⟩;rw[← hst];intros;refine gR 0 0 c198r21.eq_1 ?_;intros
 refine dA (dE (L':=[.blk b4 [.int .i64 (if s.2.2=0 then s.2.1 else p2)],.blk b3 [.bool (if s.2.2=0 then true else false)],.reg 2 [.int .i64 n0,.int .i64 (n0+n1),.int .i64 n2,.int .i64 n3,.int .i64 n4,.int .i64 n5,.int .i64 n6,.bool tx,.int .i64 ct,.slice none 0 0]]) (.cons_cons _ (.cons_cons _ (.cons _ Kl)))) ?_;refine dA (dW none 103 5) ?_
 refine ez (fun e h=>∃ (rs:List Rec) (a:Int) (ok:Bool) (u:Value) (zc:J6) (G':J5),((ok=true∧s.2.2=0∧hX l n0 s.1 s.2.1.toNat many=some (rs,a.toNat)∧0≤a∧zt rs s.1=true)∨(ok=false∧fo 15 l=none))∧(rs.length≤16∧Gle G1 G'∧Cells RR 5 rs zc) ∧
  (e 1=.pointer (some ⟨b1,0,none⟩)∧e 3=.pointer (some ⟨b3,0,none⟩)∧e 4=.pointer (some ⟨b4,0,none⟩))∧h=⟨G',[.row u 103 5 rs.length zc,.blk b4 [.int .i64 a],.blk b3 [.bool ok],.reg 2 [.int .i64 n0,.int .i64 (n0+n1),.int .i64 n2,.int .i64 n3,.int .i64 n4,.int .i64 n5,.int .i64 n6,.bool tx,.int .i64 ct,u]],[]⟩) ?_ ?_
 ·intros;refine dy ?_;refine dV (fun e h=>∃ (k:Nat) (rs:List Rec) (a:Int) (ok:Bool) (u:Value) (zc:J6) (G':J5),(k≤many∧rs.length=k∧Gle G1 G'∧Cells RR 5 rs zc∧((ok=true∧s.2.2=0∧hX l n0 s.1 s.2.1.toNat k=some (rs,a.toNat)∧0≤a∧zt rs s.1=true)∨(ok=false∧fo 15 l=none))) ∧
   e 1=.pointer (some ⟨b1,0,none⟩)∧e 3=.pointer (some ⟨b3,0,none⟩)∧e 4=.pointer (some ⟨b4,0,none⟩)∧e 9=.int .i64 (many:Int)∧e 10=.int .i64 st∧e 11=.int .i64 k∧h.G=G'∧h.D=[]∧[.row u 103 5 rs.length zc,.blk b4 [.int .i64 a],.blk b3 [.bool ok],.reg 2 [.int .i64 n0,.int .i64 (n0+n1),.int .i64 n2,.int .i64 n3,.int .i64 n4,.int .i64 n5,.int .i64 n6,.bool tx,.int .i64 ct,u]].Sublist h.L) (fun e h=>many - iv (e 11)) ?_ ?_
  ·refine⟨0,[],_,_,_,[],G1,⟨Nat.zero_le _,rfl,.refl _,.nil,?_⟩,eE,eE,eE,eE,eE,eE,rfl,rfl,List.Sublist.refl _⟩;by_cases h:s.2.2=0
   ·rw[if_pos h,if_pos h];exact .inl ⟨rfl,h,rfl,hsn,rfl⟩
   ·rw[if_neg h,if_neg h];exact .inr ⟨rfl,by rw[hb5,if_neg h]⟩
  ·rintro e ⟨G',L,D⟩ ⟨k,rs,a,ok,u,zc,G2,⟨hk,hrl,hgg,hcs,hor⟩,e1,e3,e4,e9,e10,e11,hG,hD,hL⟩;dsimp only at hG hD hL;subst hG hD;refine dA (dE hL) ?_;refine dC [1,3,4,9,10,11] ?_;refine sJ6 @e1 @e3 @e4 @e9 @e10 @e11 ?_;intros;refine gR 107 112 c198r22.eq_1 ?_;refine gd (fun k1=>?_) (fun k1=>?_);rotate_left
   ·have k1:k=many:=by have:=Ko k1;omega
    subst k1;refine sI ?_;intros;refine gC ?_;refine dS ?_;refine sI ?_;exact ej ⟨rs,a,ok,u,zc,G',hor,⟨by omega,hgg,hcs⟩,⟨eE,eE,eE⟩,rfl⟩
   have k1:k < many:=by have:=Kn k1;omega
   refine sI ?_;refine⟨_,dH (.tail _ (.tail _ (.head _))) rfl,?_⟩;refine sI ?_;intros;refine gC ?_;refine gb (fun k2=>?_) (fun k2=>?_);rotate_left
   ·rcases hor with⟨h,-⟩ | ⟨_,h⟩
    ·rw[h]at k2;cases k2
    refine dS ?_;refine sI ?_;exact ej ⟨rs,a,ok,u,zc,G',.inr ⟨k2,h⟩,⟨by omega,hgg,hcs⟩,⟨eE,eE,eE⟩,rfl⟩
   subst k2;rcases hor with⟨-,hs0,hrg,ha,hso⟩ | ⟨h,_⟩
   rotate_left
   ·cases h
   rw[if_pos hs0]at hst;subst hst;have hw:=fi k many k1 (by unfold maxLen;omega);obtain⟨pa,rfl⟩:∃ n:Nat,a=n:=⟨a.toNat,by omega⟩;rw[Int.toNat_natCast]at hrg;have hrec:=BV l pa n0 s.1 _ G' (SB.le hl1 hgg);have hrr:=C2 l pa n0 s.1;have hnxt:hX l n0 s.1 s.2.1.toNat (k+1)=if (getR l pa n0 s.1).2.2=0 then some (rs++[(getR l pa n0 s.1).1],(getR l pa n0 s.1).2.1.toNat)else none:=by
    rw[hX,hrg];rfl
   have hnn:=Dn l pa n0 s.1;generalize getR l pa n0 s.1=q at hrec hrr hnxt hnn;obtain⟨r,nx,er⟩:=q;dsimp only at hrr hnxt hrec hnn;have hrr0:=hrr.1;unfold ia at hrec hrr;intros;refine gN ?_;intros;refine gR 115 125 c198r23.eq_1 ?_;refine⟨_,⟨_,rfl,.g (dN hgg h1)⟩,?_⟩;refine sI ?_;refine⟨_,dH (.tail _ (.head _)) rfl,?_⟩;refine sI ?_;refine(hrec _ _).mono ?_;rintro r h' ⟨rfl,rfl⟩;refine sI ?_
   intros;try refine dx ?_
   refine ez (fun e h=>(e 1=.pointer (some ⟨b1,0,none⟩)∧e 3=.pointer (some ⟨b3,0,none⟩)∧e 4=.pointer (some ⟨b4,0,none⟩))∧(e 9=.int .i64 (many:Int)∧e 10=.int .i64 s.1∧e 11=.int .i64 k∧e 13=.int .i64 nx)∧h=⟨G',[.reg 12 [.int .i64 r.off,.string r.key,.string r.val,.bool r.dead,.int .i64 r.stamp],.row u 103 5 rs.length zc,.blk b4 [.int .i64 (pa:Int)],.blk b3 [.bool (decide (er=0) && (decide (0 < k) || decide (r.stamp=s.1)))],.reg 2 [.int .i64 n0,.int .i64 (n0+n1),.int .i64 n2,.int .i64 n3,.int .i64 n4,.int .i64 n5,.int .i64 n6,.bool tx,.int .i64 ct,u]],[]⟩) ?_ ?_
   ·intros;refine gR 125 140 c198r24.eq_1 ?_;refine⟨_,dH (.tail _ (.tail _ (.tail _ (.head _)))) rfl,?_⟩;refine sI ?_;refine gd (fun k2=>?_) (fun k2=>?_)
    ·have k3:=Kn k2;refine sI ?_;refine gd (fun k4=>?_) (fun k4=>?_)
     ·have k5:=Kn k4;refine sI ?_;refine dM [_,_,_] [_] rfl (by simp) ⟨rfl,rfl⟩ ?_;refine sI ?_;intros;refine dy ?_;refine ej ⟨⟨eE,eE,eE⟩,⟨eE,eE,eE,eE⟩,?_⟩;rw[decide_eq_true k3,decide_eq_true (show 0 < k by omega)];rfl
     ·have k5:=Ko k4;refine sI ?_;refine dM [_,_,_] [_] rfl (by simp) ⟨rfl,rfl⟩ ?_;refine sI ?_;intros;refine dy ?_;refine ej ⟨⟨eE,eE,eE⟩,⟨eE,eE,eE,eE⟩,?_⟩;rw[decide_eq_true k3,decide_eq_false (show ¬ 0 < k by omega)];rfl
    ·have k3:=Ko k2;refine sI ?_;refine dM [_,_,_] [_] rfl (by simp) ⟨rfl,rfl⟩ ?_;refine sI ?_;intros;refine dy ?_;refine ej ⟨⟨eE,eE,eE⟩,⟨eE,eE,eE,eE⟩,?_⟩;rw[decide_eq_false k3];rfl
   rintro e h ⟨⟨e1,e3,e4⟩,⟨e9,e10,e11,e13⟩,rfl⟩;refine dC [1,3,4,9,10,11,13] ?_;refine sJ7 @e1 @e3 @e4 @e9 @e10 @e11 @e13 ?_;have hok:∀ (j:Nat),j=k→((decide (er=0) && (decide (0 < k) || decide (r.stamp=s.1)))=true∧s.2.2=0∧hX l n0 s.1 s.2.1.toNat (k+1)=some (rs++[r],nx.toNat)∧0≤nx∧zt (rs++[r]) s.1=true)∨((decide (er=0) && (decide (0 < k) || decide (r.stamp=s.1)))=false∧fo 15 l=none):=fun j _=>by
    by_cases h0:er=0
    ·rw[if_pos h0]at hnxt;by_cases h1:0 < k
     ·refine .inl ⟨by simp[h0,h1],hs0,hnxt,hnn,?_⟩
      match rs,hrl,hso with
      | x :: xs,_,hso=>exact hso
      | [],hrl,_=>simp at hrl;omega
     ·have hk0:k=0:=by omega
      have hrs:rs=[]:=List.eq_nil_of_length_eq_zero (by omega);subst hrs;by_cases h2:r.stamp=s.1
      ·refine .inl ⟨by simp[h0,h2],hs0,hnxt,hnn,by simp[zt,h2]⟩
      ·refine .inr ⟨by simp[h0,h1,h2],?_⟩;rw[hb5,if_pos hs0];cases hrm:hX l n0 s.1 s.2.1.toNat many with
       | none=>rfl
       | some q =>
        simp only[Option.bind_some];have hpre:=wg hrm (k+1) (by omega);rw[hnxt]at hpre;obtain⟨q2,hq,t,ht⟩:=hpre;cases hq;refine if_neg fun hc=>?_
        rw[ht]at hc;have:=hc.2;simp[zt,h2]at this
    ·rw[if_neg h0]at hnxt;refine .inr ⟨by simp[h0],?_⟩;have:=od (many - (k+1)) (k+1) hnxt;rw[show k+1+(many - (k+1))=many by omega]at this;rw[hb5,if_pos hs0,this];rfl
   have hok:=hok k rfl;generalize (decide (er=0) && (decide (0 < k) || decide (r.stamp=s.1)))=ok at hok ⊢;intros;refine gR 140 141 c198r25.eq_1 ?_;refine dM [_,_] [_,_] rfl (by simp) ⟨rfl,rfl⟩ ?_;refine sI ?_;intros;refine gR 142 146 c198r26.eq_1 ?_;intro bk hbk;refine yu (L1:=[_]) (L2:=[_,_,_]) (E:=RR) (x:=r) rfl hrr rfl (by simp[Value.oneCell']) hcs (by omega) (by omega) fun A' c' zc' hzc=>?_
   refine sI ?_;intros;refine gR2 113 115 c198r27.eq_1 @hw ?_;intros;refine dy ?_;refine ej ⟨⟨k+1,rs++[r],nx,ok,_,zc',G',⟨by omega,by simp[hrl],hgg,hzc,hok⟩,eE,eE,eE,eE,eE,eE,rfl,rfl,.cons _ (.cons _ Kl)⟩,?_⟩;refine sI ?_;omega
 rintro e h ⟨rs,a,ok,u,zc,G',hor,⟨hrl,hgg,hcs⟩,⟨e1,e3,e4⟩,rfl⟩;refine dC [1,3,4] ?_;refine sJ3 @e1 @e3 @e4 ?_;intros;refine ei (dT [] _ (by decide) hcs) ?_;rintro h' ⟨G2,rfl,hg2,B,d,rfl,hd1,hd2,hB⟩;refine dA (ee (.swap _ _ _)) ?_;have h12:=dN (hgg.trans hg2) h1
 have hfin:∀ (t:Bool),(if t=true then fo 15 l=some ⟨n0,n0+n1,n2,n3,n4,n5,n6,tx,ct,rs⟩else fo 15 l=none)→tK 15 l G2 (.tuple #[.agg #[.int .i64 n0,.int .i64 (n0+n1),.int .i64 n2,.int .i64 n3,.int .i64 n4,.int .i64 n5,.int .i64 n6,.bool tx,.int .i64 ct,.slice B rs.length d],.bool t]):=fun t ht =>
  ⟨⟨n0,n0+n1,n2,n3,n4,n5,n6,tx,ct,rs⟩,_,t,rfl,⟨B,d,rfl,⟨hd1,hd2,hB⟩,hi7.1,hi7.2.1,hi7.2.2.1,hi7.2.2.2.1,hi7.2.2.2.2.1,hi7.2.2.2.2.2.1,hi7.2.2.2.2.2.2,hcti⟩,ht⟩
 rcases hor with⟨rfl,hs0,hrg,ha,hso⟩ | ⟨rfl,hno⟩
 ·intros;refine dy ?_;refine qY _ Kl (by decide) ?_;refine sJ c198r28.eq_1 ?_;refine⟨_,dH (.head _) rfl,?_⟩;refine sI ?_;refine⟨_,dH (.tail _ (.head _)) rfl,?_⟩;refine sI ?_;refine⟨_,⟨_,rfl,.g h12⟩,?_⟩;refine sI ?_;refine dM [] [_,_] rfl (by simp) ⟨rfl,rfl⟩ ?_;refine sI ?_;intros;refine dy ?_
  refine dG (jS (out:=[.agg #[.int .i64 n0,.int .i64 (n0+n1),.int .i64 n2,.int .i64 n3,.int .i64 n4,.int .i64 n5,.int .i64 n6,.bool tx,.int .i64 ct,.slice B rs.length d],.bool (decide (a=(l.length:Int)))]) ?_ ?_)
  ·simp[o198,mc,Kx.getR,getB,u4,ldC,Env.set]
  ·refine hfin _ ?_;rw[hb5,if_pos hs0,hrg];simp only[Option.bind_some];by_cases h:a=(l.length:Int)
   ·rw[if_pos (decide_eq_true h),if_pos ⟨by omega,hso⟩,hmk]
   ·rw[if_neg (by simpa using h),if_neg (fun hc=>h (by omega))]
 ·intros;refine dy ?_;refine qY _ Kl (by decide) ?_;refine sJ c198r28.eq_1 ?_;refine⟨_,dH (.head _) rfl,?_⟩;refine sI ?_;refine dM [] [_,_] rfl (by simp) ⟨rfl,rfl⟩ ?_;refine sI ?_;intros;refine dy ?_;refine dG (jS (out:=[.agg #[.int .i64 n0,.int .i64 (n0+n1),.int .i64 n2,.int .i64 n3,.int .i64 n4,.int .i64 n5,.int .i64 n6,.bool tx,.int .i64 ct,.slice B rs.length d],.bool false]) ?_ ?_)
  ·simp[o198,mc,Kx.getR,getB,u4,ldC,Env.set]
  ·exact hfin false hno
theorem F178:Fun Tryz.prog 178 68 v178 c178 o178:=Fun.mkA Tryz.func178 Tryz.ntmps178
def kD:Batch:=⟨0,0,0,0,0,0,0,false,0,[]⟩
def xg(w:Int)(l:Kf):Option Batch:=(fo w l).bind fun x=>if fx x=0 then some x else none
def getB(l:Kf)(a:Int):Batch × Int × Int :=
 if (jA l a 4).2=0 then
  if 5≤(jA l a 4).1∧(jA l a 4).1≤2044 then
   if (jA l a 4).1≤(l.drop (a.toNat+4)).length then
    if (jm ((l.drop (a.toNat+4)).take (jA l a 4).1)).2=0 then
     match xg 15 (jm ((l.drop (a.toNat+4)).take (jA l a 4).1)).1 with
     | none=>(kD,0,11)
     | some x=>(x,((a.toNat+4+(jA l a 4).1:Nat):Int),0)
    else(kD,0,(jm ((l.drop (a.toNat+4)).take (jA l a 4).1)).2)
   else(kD,0,10)
  else(kD,0,11)
 else(kD,0,(jA l a 4).2)
def yR(l:Kf)(a:Int)(G:J5)(r:Value):Prop:=∃ cs,r=.tuple #[.agg cs.toArray,.int .i64 (getB l a).2.1,.int .i64 (getB l a).2.2]∧BE G (getB l a).1 cs
theorem vO{l:Kf}{a:Int}{k:Nat}(h:(jA l a k).2=0):0≤a∧a.toNat+k≤l.length∨(k=0):=by
 unfold jA at h;split at h
 ·cases h
 ·split at h
  ·cases h
  ·rename_i h1 h2;by_cases hk:k=0
   ·exact .inr hk
   ·left;simp at h2;omega
theorem DD{l:Kf}{a:Int}:(jA l a 4).1 < 4294967296:=by
 unfold jA;split
 ·decide
 ·split
  ·decide
  ·have:=wU ((l.drop a.toNat).take 4);have h2:256 ^ ((l.drop a.toNat).take 4).length≤256 ^ 4:=Nat.pow_le_pow_right (by decide) (by simp;omega);omega
theorem xX(l:Kf):(jm l).1.length≤l.length:=by
 unfold jm;split
 ·simp
 ·split
  ·simp
  ·simp
theorem qB{w:Int}{l:Kf}{x:Batch}(h:fo w l=some x)(h0:fx x=0):xg w l=some x:=by rw[xg,h];exact if_pos h0
theorem z9{w:Int}{l:Kf}{x:Batch}(h:fo w l=some x)(h0:¬ fx x=0):xg w l=none:=by rw[xg,h];exact if_neg h0
theorem yi{w:Int}{l:Kf}(h:fo w l=none):xg w l=none:=by rw[xg,h];rfl
set_option maxHeartbeats 2000000 in
theorem BN(l:Kf)(a:Int)(v:Value)(G:J5)(hl:SB G v l)(hb:l.length≤1000000):FnD Tryz.prog 178 #[v,.int .i64 a] G (yR l a):=by
 have hl0:=hl;obtain⟨A,c,rfl,hc,hm,hA⟩:=hl;unfold maxLen at hm;refine F178.fnD (by simp) (dI ?_);unfold c178;have hng:=xA l a 4 (by omega) _ G hl0;have hnk:=@vO l a 4;have hnl:=@DD l a;intros;refine gR 0 0 c178r0.eq_1 ?_;intros;refine gR 11 17 c178r1.eq_1 ?_;refine fK (hng _ _) ?_;intros;refine gR 17 18 c178r2.eq_1 ?_;intros;refine gC ?_;refine gb (fun k1=>?_) (fun k1=>?_)
 ·have k1:=Kn k1;intros;refine gR 19 21 c178r3.eq_1 ?_;intros;refine rW ?_;have hg:getB l a=(kD,0,(jA l a 4).2):=by rw[getB,if_neg k1]
  exact⟨_,by rw[hg],by rw[hg];exact BE.zero⟩
 have k1:(jA l a 4).2=0:=by simpa using k1
 obtain⟨ha,hal⟩:=(hnk k1).resolve_right (by decide);obtain⟨a,rfl⟩:∃ n:Nat,a=n:=⟨a.toNat,by omega⟩;rw[Int.toNat_natCast]at hal;have hg:getB l (a:Int)=if 5≤(jA l a 4).1∧(jA l a 4).1≤2044 then
   if (jA l a 4).1≤(l.drop (a+4)).length then
    if (jm ((l.drop (a+4)).take (jA l a 4).1)).2=0 then
     match xg 15 (jm ((l.drop (a+4)).take (jA l a 4).1)).1 with
     | none=>(kD,(0:Int),(11:Int))
     | some x=>(x,((a+4+(jA l a 4).1:Nat):Int),(0:Int))
    else(kD,(0:Int),(jm ((l.drop (a+4)).take (jA l a 4).1)).2)
   else(kD,(0:Int),(10:Int))
  else(kD,(0:Int),(11:Int)):=by rw[getB,if_pos k1];rfl
 generalize (jA l a 4).1=n at hg hnl;have hbad:¬ (5≤n∧n≤2044)→∀ (fr:Kc) (e:Env),go none Tryz.prog 68 v178.1 v178.2 (gl o178 fun v h=>yR l a h.G v) (Td.s ((SC.reg false c178r5).seq .ret) :: fr) e ⟨G,[.reg 4 [.int .i64 0,.int .i64 0,.int .i64 0,.int .i64 0,.int .i64 0,.int .i64 0,.int .i64 0,.bool false,.int .i64 0,.slice none 0 0]],[]⟩:=fun hx fr e=>by
  rw[if_neg hx]at hg;intros;refine gR 27 28 c178r5.eq_1 ?_;intros;refine rW ?_;exact⟨_,by rw[hg],by rw[hg];exact BE.zero⟩
 intros;refine gN ?_;intros;refine gR 21 26 c178r4.eq_1 ?_;refine gdD (fun k2=>?_) (fun k2=>?_)
 ·refine sI ?_;intros;refine gC ?_;exact hbad (by omega) _ _
 refine sI ?_;intros;refine gC ?_;refine gbD (fun k3=>?_) (fun k3=>?_)
 ·exact hbad (by omega) _ _
 clear hbad;rw[if_pos ⟨by omega,by omega⟩]at hg;have w4:IntKind.i64.wrap ((a:Int)+4)=((a+4:Nat):Int):=by rw[dX] <;> omega
 intros;refine gN ?_;intros;refine gR2 28 32 c178r6.eq_1 @w4 ?_;refine AD (a+4) l.length c hl0 rfl rfl rfl (by omega) fun B hB=>?_
 rw[take_length]at hB ⊢;have hrl:(l.drop (a+4)).length=l.length - (a+4):=by simp
 generalize l.drop (a+4)=rest at hB hg hrl ⊢;refine sI ?_;have hcv:IntKind.u64.wrap (rest.length:Int)=(rest.length:Int):=ox (by omega);intros;refine gR2 32 36 c178r7.eq_1 @hcv ?_;intros;refine gC ?_;refine gbD (fun k4=>?_) (fun k4=>?_)
 ·rw[if_neg (by omega)]at hg;intros;refine gR 37 38 c178r8.eq_1 ?_;intros;refine rW ?_;exact⟨_,by rw[hg],by rw[hg];exact BE.zero⟩
 rw[if_pos (by omega)]at hg;have hpre:=SlV.pre n hB (by omega);have hop:=BK (rest.take n) _ G hpre (by simp;omega);have hol:=xX (rest.take n);have hrn:(rest.take n).length≤2044:=by simp;omega
 generalize jm (rest.take n)=o at hop hg hol;intros;refine gN ?_;intros;refine gR 38 45 c178r9.eq_1 ?_;refine⟨by omega,?_⟩;refine(hop _ []).mono ?_;rintro r h' ⟨G1,L',rfl,hg1,u,rfl,ys,hys,rfl⟩;refine sI ?_;intros;try refine dx ?_
 refine ei (dT [] _ (by decide) hys) ?_;rintro h' ⟨G2,rfl,hg2,hv2⟩;intros;refine gR 45 46 c178r10.eq_1 ?_;intros;refine gC ?_;refine gb (fun k5=>?_) (fun k5=>?_)
 ·have k5:=Kn k5;rw[if_neg k5]at hg;intros;refine gR 47 49 c178r11.eq_1 ?_;intros;refine rW ?_;exact⟨_,by rw[hg],by rw[hg];exact BE.zero⟩
 have k5:o.2=0:=by simpa using k5
 rw[if_pos k5]at hg;intros;refine gN ?_;intros;refine gR 49 54 c178r12.eq_1 ?_;refine(yC o.1 u G2 hv2 (by omega) _ []).mono ?_;rintro r h' ⟨G3,rfl,hg3,x,cs,ok,rfl,hbe,hpo⟩;have hck:=ly x cs G3 hbe;have hbe0:=hbe;obtain⟨B',d',rfl,-⟩:=hbe;unfold eP at hck;unfold eP;refine sI ?_
 have hbad:xg 15 o.1=none→∀ (fr:Kc) (e:Env),go none Tryz.prog 68 v178.1 v178.2 (gl o178 fun v h=>yR l a h.G v) (Td.s ((SC.reg false c178r14).seq .ret) :: fr) e ⟨G3,[.reg 4 (eP x (.slice B' x.recs.length d'))],[]⟩:=fun hx fr e=>by
  rw[hx]at hg;dsimp only at hg;unfold eP;intros;refine gR 61 62 c178r14.eq_1 ?_;intros;refine rW ?_;exact⟨_,by rw[hg],by rw[hg];exact BE.zero⟩
 unfold eP at hbad;intros;refine gR 54 60 c178r13.eq_1 ?_;refine gd (fun k6=>?_) (fun k6=>?_)
 ·have k6:ok=false:=by simpa using k6
  subst k6;refine sI ?_;intros;refine gC ?_;exact hbad (yi hpo) _ _
 have k6:ok=true:=by simpa using k6
 subst k6;refine sI ?_;refine fK (hck _ _) ?_;intros;refine gC ?_;refine gb (fun k7=>?_) (fun k7=>?_)
 ·have k7:=Kn k7;exact hbad (z9 hpo k7) _ _
 have k7:fx x=0:=by simpa using k7
 clear hbad;rw[qB hpo k7]at hg;dsimp only at hg;have hcn:IntKind.i64.wrap (n:Int)=(n:Int):=by rw[dX] <;> omega
 have hw5:IntKind.i64.wrap (((a+4:Nat):Int)+n)=((a+4+n:Nat):Int):=by rw[dX] <;> omega
 generalize a+4+n=nx at hg hw5;generalize a+4=a4 at w4 hw5;intros;refine gN ?_;intros;refine gr 62 68 ?_;refine sJ4 c178r15.eq_1 @w4 @hcn @hw5 ?_;intros;refine rW ?_;exact⟨_,by rw[hg],by rw[hg];exact hbe0⟩
theorem tT{y:Nat}(h:y < 256):(UInt8.ofNat y).toNat=y:=by simp;omega
theorem FL(x:UInt8):UInt8.ofNat x.toNat=x:=by simp
theorem ta:∀ (f i z y:Nat) (q:Kf),i+f=9→y < 2 * 128 ^ f→(0 < i→0 < y)→gvL i z (oG f y++q)=(0,z+128 ^ i * y,i+(oG f y).length)
 | 0,i,z,y,q,hi,hy,h0=>by
  have hx:(UInt8.ofNat y).toNat=y:=tT (by simp at hy;omega);simp at hy;simp only[oG,List.cons_append,List.nil_append];rw[m9 (by rw[hx];omega) (by rw[hx];omega),hx,Nat.mod_eq_of_lt (by omega)];rfl
 | f+1,i,z,y,q,hi,hy,h0=>by
  unfold oG;split
  ·rename_i hlt;have hx:(UInt8.ofNat y).toNat=y:=tT (by omega);simp only[List.cons_append,List.nil_append];rw[m9 (by rw[hx];omega) (by rw[hx];omega),hx,Nat.mod_eq_of_lt (by omega)];rfl
  ·rename_i hge;have hx:(UInt8.ofNat (128+y % 128)).toNat=128+y % 128:=tT (by omega);simp only[List.cons_append];rw[mK (by rw[hx];omega) (by rw[hx];omega),hx];rw[Nat.pow_succ]at hy;rw[ta f (i+1) _ (y / 128) q (by omega) (by omega) (by omega)];have e1:(128+y % 128) % 128=y % 128:=by omega
   have e2:128 ^ (i+1) * (y / 128)=128 ^ i * (128 * (y / 128)):=by rw[Nat.pow_succ,Nat.mul_assoc]
   rw[e1,e2,Nat.add_assoc,← Nat.mul_add,show y % 128+128 * (y / 128)=y by omega];simp;omega
theorem tD:∀ (m:Kf) (i z:Nat),i≤9→(gvL i z m).1=0→∃ y rest,m=oG (9 - i) y++rest∧(gvL i z m).2.1=z+128 ^ i * y∧(gvL i z m).2.2=i+(oG (9 - i) y).length∧(0 < i→0 < y)∧y < 2 * 128 ^ (9 - i)
 | [],i,z,_,h=>by simp[gvL]at h
 | x :: xs,i,z,hi,h=>by
  have hxl:=x.toNat_lt;by_cases h1:(i=9∧1 < x.toNat)∨(0 < i∧x.toNat=0)
  ·rw[rk h1]at h;cases h
  ·by_cases h2:x.toNat < 128
   ·rw[m9 h1 h2];refine⟨x.toNat,xs,?_,by rw[Nat.mod_eq_of_lt h2],?_,by omega,?_⟩
    ·rw[sp h2,FL];rfl
    ·rw[sp h2];rfl
    ·by_cases h9:i=9
     ·subst h9;simp;omega
     ·have:128 ^ 1≤128 ^ (9 - i):=Nat.pow_le_pow_right (by decide) (by omega);omega
   ·have hi8:i≤8:=by omega
    rw[mK h1 h2]at h ⊢;obtain⟨y,rest,e1,e2,e3,e4,e5⟩:=tD xs (i+1) _ (by omega) h;have hy:=e4 (by omega);refine⟨(x.toNat - 128)+128 * y,rest,?_,?_,?_,by omega,?_⟩
    ·rw[show 9 - i=9 - (i+1)+1 by omega,oG,if_neg (by omega),show 128+(x.toNat - 128+128 * y) % 128=x.toNat by omega,FL,show(x.toNat - 128+128 * y) / 128=y by omega,List.cons_append,← e1]
    ·rw[e2,Nat.pow_succ,Nat.add_assoc];congr 1;rw[show x.toNat % 128=x.toNat - 128 by omega,Nat.mul_assoc,← Nat.mul_add]
    ·rw[e3,show 9 - i=9 - (i+1)+1 by omega,oG,if_neg (by omega),show(x.toNat - 128+128 * y) / 128=y by omega,length_cons];omega
    ·rw[show 9 - i=9 - (i+1)+1 by omega,Nat.pow_succ];omega
theorem Dw{n:Int}(h:I64 n):zag (zig n)=n:=by
 unfold zag zig I64 at *;split <;> split <;> omega
theorem xn(z:Nat):zig (zag z)=z:=by
 unfold zag zig;split <;> split <;> omega
theorem xu{l:Kf}{a:Nat}:fI l (a:Int)=if (gvL 0 0 (l.drop a)).1=0 then(zag (gvL 0 0 (l.drop a)).2.1,(a:Int)+(gvL 0 0 (l.drop a)).2.2,0)else(0,0,(gvL 0 0 (l.drop a)).1):=by
 rw[fI,if_neg (by omega)];rfl
theorem lT{l:Kf}{a:Nat}{n:Int}{q:Kf}(hn:I64 n)(h:l.drop a=pvB n++q):fI l (a:Int)=(n,((a+(pvB n).length:Nat):Int),0):=by
 have hz:=pT hn;rw[xu,h,pvB,ta 9 0 0 (zig n) q rfl (by omega) (by omega)];simp only[if_true,Nat.zero_add,Nat.pow_zero,Nat.one_mul,Dw hn];rfl
theorem jv{l:Kf}{a:Nat}(h:(fI l (a:Int)).2.2=0):∃ q,l.drop a=pvB (fI l (a:Int)).1++q∧(fI l (a:Int)).2.1=((a+(pvB (fI l (a:Int)).1).length:Nat):Int)∧I64 (fI l (a:Int)).1:=by
 obtain⟨_,_,_,_,_,hi⟩:=l0 h;rw[xu]at h hi ⊢;split at h
 ·rename_i h0;rw[if_pos h0]at hi ⊢;obtain⟨y,rest,e1,e2,e3,_,e5⟩:=tD _ 0 0 (by omega) h0;simp only[Nat.zero_add,Nat.pow_zero,Nat.one_mul,Nat.sub_zero]at e1 e2 e3;dsimp only at hi ⊢;rw[e2]at hi ⊢;refine⟨rest,?_,?_,hi⟩
  ·rw[pvB,xn];exact e1
  ·rw[pvB,xn,e3];rfl
 ·rename_i h0;exact absurd h h0
theorem yb(n:Int):0 < (pvB n).length:=(oI 9 _).2
theorem wR{l:Kf}{a:Nat}{s:ByteArray}{q:Kf}(hs:s.size≤64)(h:l.drop a=ptB s++q):lJ l (a:Int) 64=(s,((a+(ptB s).length:Nat):Int),0):=by
 have hv:=lT (l:=l) (a:=a) (n:=s.size) (q:=s.data.toList++q) (by unfold I64;omega) (by rw[h,ptB,append_assoc]);have hd:l.drop (a+(pvB s.size).length)=s.data.toList++q:=by rw[← List.drop_drop,h,ptB,append_assoc,List.drop_left]
 have hl:s.data.toList.length=s.size:=rfl;have hlen:a+(pvB s.size).length+s.size≤l.length:=by
  have:=congrArg List.length hd;simp at this;have h2:=yb s.size;have h3:=congrArg List.length h;simp[ptB]at h3;omega
 rw[lJ,hv];dsimp only;rw[if_pos rfl,if_neg (by omega),if_neg (by omega),if_neg (by omega)];simp only[Int.toNat_natCast];have e1:(l.take (a+(pvB s.size).length+s.size)).drop (a+(pvB s.size).length)=s.data.toList:=by
  rw[List.drop_take,Nat.add_sub_cancel_left,hd,List.take_left' hl]
 rw[e1];refine Prod.ext rfl (Prod.ext ?_ rfl);simp only[ptB,length_append,hl];omega
theorem qg{l:Kf}{a:Nat}(h:(lJ l (a:Int) 64).2.2=0):∃ q,l.drop a=ptB (lJ l (a:Int) 64).1++q∧(lJ l (a:Int) 64).2.1=((a+(ptB (lJ l (a:Int) 64).1).length:Nat):Int)∧(lJ l (a:Int) 64).1.size≤64:=by
 have hb:=@jv l a;have hk:=@l0 l a;unfold lJ at h ⊢;split at h
 ·rename_i h0;obtain⟨q,e1,e2,e3⟩:=hb h0;obtain⟨k,_,e4,_,e5,_⟩:=hk h0;rw[Int.toNat_natCast]at e4 e5;rw[if_pos h0];split at h
  ·cases h
  ·rename_i h1;split at h
   ·cases h
   ·rename_i h2;split at h
    ·cases h
    ·rename_i h3;rw[if_neg h1,if_neg h2,if_neg h3];generalize fI l (a:Int)=v at *;obtain⟨n,nx,er⟩:=v;dsimp only at *;obtain⟨n,rfl⟩:∃ m:Nat,n=m:=⟨n.toNat,by omega⟩;have hk2:k=(pvB n).length:=by omega
     subst hk2;subst e4;simp only[Int.toNat_natCast];have hd:l.drop (a+(pvB n).length)=q:=by rw[← List.drop_drop,e1,List.drop_left]
     have hql:n≤q.length:=by rw[← hd];simp;omega
     have e6:(l.take (a+(pvB n).length+n)).drop (a+(pvB n).length)=q.take n:=by rw[List.drop_take,Nat.add_sub_cancel_left,hd]
     rw[e6];have hsz:(ByteArray.mk (q.take n).toArray).size=n:=by
      show(q.take n).toArray.size=n;simp;omega
     refine⟨q.drop n,?_,?_,by rw[hsz];omega⟩
     ·rw[ptB,hsz,append_assoc,e1];simp
     ·rw[ptB,length_append,hsz];simp;omega
 ·rename_i h0;exact absurd h h0
theorem Jj{l:Kf}{a:Nat}{x:UInt8}{q:Kf}(h:l.drop a=x :: q):l[a]?=some x:=by
 have:=List.getElem?_drop (xs:=l) (i:=a) (j:=0);rw[Nat.add_zero,h]at this;exact this.symm
theorem AQ{l:Kf}{a:Nat}{x:UInt8}(h:l[a]?=some x):l.drop a=x :: l.drop (a+1):=by
 have h2:=List.getElem?_eq_some_iff.1 h;rw[List.drop_eq_getElem_cons h2.1,h2.2]
theorem fc{l p q:Kf}{a:Nat}(h:l.drop a=p++q):l.drop (a+p.length)=q:=by rw[← List.drop_drop,h,List.drop_left]
theorem fO{n:Int}:inO n=true↔0≤n∧n≤1099511627776:=by simp[inO]
theorem CN{l:Kf}{a:Nat}{r:Rec}{base stamp:Int}{q:Kf}(hb:inO base=true)(hs:inO stamp=true)(hc:kz r=0)(h:l.drop a=prB r base stamp++q):getR l (a:Int) base stamp=(r,((a+(prB r base stamp).length:Nat):Int),0):=by
 obtain⟨⟨c1,c2⟩,c3,c4⟩:=fN hc;have hb':=fO.1 hb;have hs':=fO.1 hs;have c1':=fO.1 c1;have c2':=fO.1 c2;have h1:l.drop a=pvB (r.off - base)++(pvB (r.stamp - stamp)++((if r.dead=true then 1 else 0) :: (ptB r.key++(ptB r.val++q)))):=by rw[h,prB];simp
 have h2:=fc h1;have h3:=fc h2;have h4:l.drop (a+(pvB (r.off - base)).length+(pvB (r.stamp - stamp)).length+1)=ptB r.key++(ptB r.val++q):=by
  have:=fc (p:=[if r.dead=true then 1 else 0]) h3;exact this
 have h5:=fc h4;have v1:=lT (show I64 (r.off - base)by unfold I64;omega) h1;have v2:=lT (show I64 (r.stamp - stamp)by unfold I64;omega) h2;have v4:=wR c3 h4;have v5:=wR c4 h5;have v3:tI l (a+(pvB (r.off - base)).length+(pvB (r.stamp - stamp)).length)=(r.dead,((a+(pvB (r.off - base)).length+(pvB (r.stamp - stamp)).length+1:Nat):Int),0):=by
  rw[tI,Jj h3];cases r.dead <;> simp
 have e1:g1 l a=(r.off - base,((a+(pvB (r.off - base)).length:Nat):Int),0):=by rw[E0,v1]
 have e2:g2 l a=(r.stamp - stamp,((a+(pvB (r.off - base)).length+(pvB (r.stamp - stamp)).length:Nat):Int),0):=by rw[g2,e1,tQ rfl,v2]
 have e3:g3 l a=(r.dead,((a+(pvB (r.off - base)).length+(pvB (r.stamp - stamp)).length+1:Nat):Int),0):=by rw[g3,e2,tQ rfl,Int.toNat_natCast,v3]
 have e4:g4 l a=(r.key,((a+(pvB (r.off - base)).length+(pvB (r.stamp - stamp)).length+1+(ptB r.key).length:Nat):Int),0):=by rw[g4,e3,tQ rfl,v4]
 have e5:g5 l a=(r.val,((a+(pvB (r.off - base)).length+(pvB (r.stamp - stamp)).length+1+(ptB r.key).length+(ptB r.val).length:Nat):Int),0):=by rw[g5,e4,tQ rfl,v5]
 have er:uN l a base stamp=r:=by
  rw[uN,e1,e2,e3,e4,e5];have b1:bes base (r.off - base)=r.off:=by rw[bes,if_neg (by omega)];omega
  have b2:bes stamp (r.stamp - stamp)=r.stamp:=by rw[bes,if_neg (by omega)];omega
  dsimp only;rw[b1,b2]
 have hal:a≤l.length:=by
  have h6:=congrArg List.length h1;have:=yb (r.off - base);simp at h6;omega
 rw[rv ⟨hb,hs,by omega,by omega⟩,e5];dsimp only;rw[if_pos rfl,er,if_pos hc];refine Prod.ext rfl (Prod.ext ?_ rfl);dsimp only;simp only[prB,length_append,length_cons,List.length_nil];omega
theorem vD{l:Kf}{a:Nat}{base stamp:Int}(h:(getR l (a:Int) base stamp).2.2=0):∃ q,l.drop a=prB (getR l (a:Int) base stamp).1 base stamp++q∧(getR l (a:Int) base stamp).2.1=((a+(prB (getR l (a:Int) base stamp).1 base stamp).length:Nat):Int)∧kz (getR l (a:Int) base stamp).1=0:=by
 by_cases hin:inO base=true∧inO stamp=true∧0≤(a:Int)∧(a:Int)≤l.length;rotate_left
 ·rw[getR,if_neg hin]at h;cases h
 have k5:(g5 l a).2.2=0:=by
  rcases Int.lt_or_le 0 0 with hh | _
  ·omega
  ·by_cases hh:(g5 l a).2.2=0
   ·exact hh
   ·rw[AV hin hh]at h;exact absurd h hh
 have k4:(g4 l a).2.2=0:=by
  by_cases hh:(g4 l a).2.2=0
  ·exact hh
  ·rw[Bf hin hh]at h;exact absurd h hh
 have k3:(g3 l a).2.2=0:=by
  by_cases hh:(g3 l a).2.2=0
  ·exact hh
  ·rw[AZ hin hh]at h;exact absurd h hh
 have k2:(g2 l a).2.2=0:=by
  by_cases hh:(g2 l a).2.2=0
  ·exact hh
  ·rw[Bg hin hh]at h;exact absurd h hh
 have k1:(g1 l a).2.2=0:=by
  by_cases hh:(g1 l a).2.2=0
  ·exact hh
  ·rw[FW hin hh]at h;exact absurd h hh
 rw[rv hin,if_pos k5]at h ⊢;split at h;rotate_left
 ·cases h
 rename_i hc;rw[if_pos hc]
 -- field by field
 have e1:=E0 l a;rw[e1]at k1;obtain⟨q1,a1,a2,a3⟩:=jv k1;have e2:g2 l a=fI l (fI l a).2.1:=by rw[g2,e1,tQ k1]
 generalize hv1:fI l (a:Int)=v1 at *;obtain⟨d1,n1,x1⟩:=v1;dsimp only at *;subst a2;rw[e2]at k2;obtain⟨q2,b1,b2,b3⟩:=jv k2;have e3:g3 l a=tI l (fI l ((a+(pvB d1).length:Nat):Int)).2.1.toNat:=by rw[g3,e2,tQ k2]
 generalize hv2:fI l ((a+(pvB d1).length:Nat):Int)=v2 at *;obtain⟨d2,n2,x2⟩:=v2;dsimp only at *;subst b2;rw[Int.toNat_natCast]at e3;have hz1:=fc a1;have hz2:=fc b1
 -- the byte
 generalize hj:a+(pvB d1).length+(pvB d2).length=j at *;obtain⟨x,hx⟩:∃ x,l[j]?=some x:=by
  cases hx:l[j]? with
  | none=>rw[e3,tI,hx]at k3;cases k3
  | some x=>exact⟨x,rfl⟩
 have hxl:¬ 1 < x.toNat:=fun hh=>by
  rw[e3,tI,hx]at k3;dsimp only at k3;rw[if_pos hh]at k3;cases k3
 have e3':g3 l a=(decide (x.toNat=1),((j+1:Nat):Int),0):=by
  rw[e3,tI,hx];dsimp only;rw[if_neg hxl];rfl
 have hd3:=AQ hx
 -- the texts
 have e4:g4 l a=lJ l ((j+1:Nat):Int) 64:=by rw[g4,e3',tQ rfl]
 rw[e4]at k4;obtain⟨q4,c1,c2,c3⟩:=qg k4;have e5:g5 l a=lJ l (lJ l ((j+1:Nat):Int) 64).2.1 64:=by rw[g5,e4,tQ k4]
 generalize hv4:lJ l ((j+1:Nat):Int) 64=v4 at *;obtain⟨s4,n4,x4⟩:=v4;dsimp only at *;subst c2;rw[e5]at k5;obtain⟨q5,f1,f2,f3⟩:=qg k5;generalize hv5:lJ l ((j+1+(ptB s4).length:Nat):Int) 64=v5 at *;obtain⟨s5,n5,x5⟩:=v5;dsimp only at *;subst f2;have hrr:uN l a base stamp=⟨bes base d1,s4,s5,decide (x.toNat=1),bes stamp d2⟩:=by rw[uN,e1,e2,e3',e4,e5]
 rw[hrr]at hc ⊢;obtain⟨⟨o1,o2⟩,-,-⟩:=fN hc;dsimp only at o1 o2;have hb1:bes base d1 - base=d1:=by
  unfold bes at o1 ⊢;split
  ·rename_i hh;rw[if_pos hh]at o1;simp[inO]at o1
  ·omega
 have hb2:bes stamp d2 - stamp=d2:=by
  unfold bes at o2 ⊢;split
  ·rename_i hh;rw[if_pos hh]at o2;simp[inO]at o2
  ·omega
 have hbyte:(if decide (x.toNat=1)=true then(1:UInt8)else 0)=x:=by
  apply UInt8.toNat_inj.1;by_cases hh:x.toNat=1
  ·simp[hh]
  ·simp[hh];omega
 have hpr:prB ⟨bes base d1,s4,s5,decide (x.toNat=1),bes stamp d2⟩ base stamp=pvB d1++pvB d2++[x]++ptB s4++ptB s5:=by
  rw[prB];dsimp only;rw[hb1,hb2,hbyte]
 have hz4:=fc c1;refine⟨q5,?_,?_,hc⟩
 ·rw[hpr,a1,← hz1,b1,← hz2,hd3,c1,← hz4,f1];simp
 ·rw[e5,hpr];dsimp only;simp only[length_append,length_cons,List.length_nil];omega
theorem tJ{α:Type}{l:List α}{k:Nat}(h:k < l.length):l=l.take k++(l[k] :: l.drop (k+1)):=by
 rw[← List.drop_eq_getElem_cons h,List.take_append_drop]
theorem lH(a b:Ki):eO (a++b)=eO a++eO b:=by simp[eO]
theorem kq(n:Int)(b:Ki):eO (n :: b)=pvB n++eO b:=by simp[eO]
theorem lz(base stamp:Int)(a b:List Rec):fH base stamp (a++b)=fH base stamp a++fH base stamp b:=by simp[fH]
theorem kA(base stamp:Int)(r:Rec)(b:List Rec):fH base stamp (r :: b)=prB r base stamp++fH base stamp b:=by simp[fH]
theorem yf{l q:Kf}{ns:Ki}(hi:∀ n∈ns,I64 n)(h:l=eO ns++q):∀ k,k≤ns.length→nT l k=some (ns.take k,(eO (ns.take k)).length)
 | 0,_=>by simp[nT,eO]
 | k+1,hk=>by
  have hd:l.drop (eO (ns.take k)).length=pvB ns[k]++(eO (ns.drop (k+1))++q):=by
   have e:=tJ (l:=ns) (k:=k) (by omega);have:l=eO (ns.take k)++(pvB ns[k]++(eO (ns.drop (k+1))++q)):=by
    rw[h]
    conv=>lhs;rw[e]
    rw[lH,kq];simp
   rw[this,List.drop_left]
  have hv:=lT (hi _ (List.getElem_mem (by omega))) hd;rw[nT,yf hi h k (by omega)];simp only[Option.bind_some];rw[hv];dsimp only;rw[if_pos rfl,Int.toNat_natCast,List.take_succ_eq_append_getElem (by omega),lH,kq];simp[eO]
theorem p6{l:Kf}:∀ (k:Nat) (ns:Ki) (p:Nat),nT l k=some (ns,p)→ns.length=k∧(∀ n∈ns,I64 n)∧∃ q,l=eO ns++q∧p=(eO ns).length
 | 0,ns,p,h=>by
  simp only[nT,Option.some.injEq,Prod.mk.injEq]at h;obtain⟨rfl,rfl⟩:=h;exact⟨rfl,by simp,l,by simp[eO],by simp[eO]⟩
 | k+1,ns,p,h=>by
  rw[nT]at h;cases hk:nT l k with
  | none=>rw[hk]at h;cases h
  | some r =>
   obtain⟨ns',p'⟩:=r;rw[hk]at h;simp only[Option.bind_some]at h;split at h
   ·rename_i h0;obtain⟨h1,h2,q,h3,h4⟩:=p6 k ns' p' hk;obtain⟨q2,e1,e2,e3⟩:=jv h0;simp only[Option.some.injEq,Prod.mk.injEq]at h;obtain⟨rfl,rfl⟩:=h;rw[e2];generalize (fI l (p':Int)).1=n at e1 e3 ⊢;refine⟨by simp[h1],?_,q2,?_,?_⟩
    ·intro x hx;rcases List.mem_append.1 hx with hx | hx
     ·exact h2 x hx
     ·simp at hx;rw[hx];exact e3
    ·have:q=pvB n++q2:=by rw[← e1,h3,h4,List.drop_left]
     rw[h3,this,lH,kq];simp[eO]
    ·rw[Int.toNat_natCast,lH,kq,h4];simp[eO]
   ·cases h
theorem ts{l q:Kf}{base stamp:Int}{p:Nat}{rs:List Rec}(hb:inO base=true)(hs:inO stamp=true)(hc:∀ r∈rs,kz r=0)(h:l.drop p=fH base stamp rs++q):∀ k,k≤rs.length→hX l base stamp p k=some (rs.take k,p+(fH base stamp (rs.take k)).length)
 | 0,_=>by simp[hX,fH]
 | k+1,hk=>by
  have hd:l.drop (p+(fH base stamp (rs.take k)).length)=prB rs[k] base stamp++(fH base stamp (rs.drop (k+1))++q):=by
   have e:=tJ (l:=rs) (k:=k) (by omega);refine fc (p:=fH base stamp (rs.take k)) ?_;rw[h]
   conv=>lhs;rw[e]
   rw[lz,kA];simp
  have hv:=CN hb hs (hc _ (List.getElem_mem (by omega))) hd;rw[hX,ts hb hs hc h k (by omega)];simp only[Option.bind_some];rw[hv];dsimp only;rw[if_pos rfl,Int.toNat_natCast,List.take_succ_eq_append_getElem (by omega),lz,kA];simp[fH];omega
theorem om{l:Kf}{base stamp:Int}{p:Nat}:∀ (k:Nat) (rs:List Rec) (p':Nat),hX l base stamp p k=some (rs,p')→rs.length=k∧(∀ r∈rs,kz r=0)∧∃ q,l.drop p=fH base stamp rs++q∧p'=p+(fH base stamp rs).length
 | 0,rs,p',h=>by
  simp only[hX,Option.some.injEq,Prod.mk.injEq]at h;obtain⟨rfl,rfl⟩:=h;exact⟨rfl,by simp,l.drop p,by simp[fH],by simp[fH]⟩
 | k+1,rs,p',h=>by
  rw[hX]at h;cases hk:hX l base stamp p k with
  | none=>rw[hk]at h;cases h
  | some r =>
   obtain⟨rs',p1⟩:=r;rw[hk]at h;simp only[Option.bind_some]at h;split at h
   ·rename_i h0;obtain⟨h1,h2,q,h3,h4⟩:=om k rs' p1 hk;obtain⟨q2,e1,e2,e3⟩:=vD h0;simp only[Option.some.injEq,Prod.mk.injEq]at h;obtain⟨rfl,rfl⟩:=h;rw[e2];generalize (getR l (p1:Int) base stamp).1=r at e1 e3 ⊢;refine⟨by simp[h1],?_,q2,?_,?_⟩
    ·intro x hx;rcases List.mem_append.1 hx with hx | hx
     ·exact h2 x hx
     ·simp at hx;rw[hx];exact e3
    ·have:q=prB r base stamp++q2:=by rw[← e1,h4,fc h3]
     rw[h3,this,lz,kA];simp[fH]
    ·rw[Int.toNat_natCast,lz,kA,h4];simp[fH];omega
   ·cases h
theorem xz{m:UInt8}(h:m.toNat < 8):UInt8.ofNat ((((m.toNat % 4:Nat):Int)).toNat+if decide (4≤m.toNat)=true then 4 else 0)=m:=by
 apply UInt8.toNat_inj.1;rw[Int.toNat_natCast];by_cases h4:4≤m.toNat
 ·rw[if_pos (decide_eq_true h4),tT (by omega)];omega
 ·rw[if_neg (by simpa using h4),tT (by omega)];omega
theorem uu{l:Kf}{x:Batch}(h:fo 15 l=some x):l=fL x:=by
 unfold fo at h;cases hn:nT l 7 with
 | none=>rw[hn]at h;cases h
 | some q =>
  obtain⟨ns,p⟩:=q;rw[hn]at h;simp only[Option.bind_some]at h;obtain⟨hnl,hni,q0,hl0,rfl⟩:=p6 7 ns p hn;unfold m8 at h;dsimp only at h;cases hm:l[(eO ns).length]? with
  | none=>rw[hm]at h;cases h
  | some m =>
   rw[hm]at h;simp only[Option.bind_some]at h;split at h;rotate_left
   ·cases h
   rename_i hc;obtain⟨hm8,hn0,hn1⟩:=hc;have hd1:=AQ hm;unfold nf at h;split at h;rotate_left
   ·cases h
   rename_i hv;obtain⟨q1,e1,e2,e3⟩:=jv (a:=(eO ns).length+1) hv.1;rw[show(((eO ns).length:Nat):Int)+1=(((eO ns).length+1:Nat):Int)from rfl]at h hv;generalize fI l (((eO ns).length+1:Nat):Int)=v at *;obtain⟨n,nx,er⟩:=v;dsimp only at *;subst e2;generalize hsd:(if 0 < n then fI l (((eO ns).length+1+(pvB n).length:Nat):Int)else(0,(((eO ns).length+1+(pvB n).length:Nat):Int),0))=s at h;unfold pY at h
   split at h;rotate_left
   ·cases h
   rename_i hs;cases hr:hX l (ns.getD 0 0) s.1 s.2.1.toNat n.toNat with
   | none=>rw[hr]at h;cases h
   | some q =>
    obtain⟨rs,p3⟩:=q;rw[hr]at h;simp only[Option.bind_some]at h;split at h;rotate_left
    ·cases h
    rename_i hf;obtain⟨hp3,hso⟩:=hf;cases h;obtain⟨hrl,hrc,q3,f1,f2⟩:=om _ rs p3 hr;obtain⟨n0,n1,n2,n3,n4,n5,n6,rfl⟩:∃ n0 n1 n2 n3 n4 n5 n6:Int,ns=[n0,n1,n2,n3,n4,n5,n6]:=by
     match ns,hnl with
     | [n0,n1,n2,n3,n4,n5,n6],_=>exact⟨n0,n1,n2,n3,n4,n5,n6,rfl⟩
    have hhead:fz (mkB [n0,n1,n2,n3,n4,n5,n6] m rs)=[n0,n1,n2,n3,n4,n5,n6]:=by
     have:n0+n1 - n0=n1:=by omega
     simp[fz,mkB,this]
    have hmark:kh (mkB [n0,n1,n2,n3,n4,n5,n6] m rs)=m:=xz hm8;have hlen:(rs.length:Int)=n:=by omega
    have hq3:q3=[]:=by
     have:=congrArg List.length f1;simp only[List.length_drop,length_append]at this;exact List.eq_nil_of_length_eq_zero (by
      by_cases hsl:s.2.1.toNat≤l.length
      ·omega
      ·omega)
    subst hq3;rw[append_nil]at f1;have hbody:fL (mkB [n0,n1,n2,n3,n4,n5,n6] m rs)=eO [n0,n1,n2,n3,n4,n5,n6]++[m]++pvB n++jg (mkB [n0,n1,n2,n3,n4,n5,n6] m rs):=by
     rw[fL,hhead,hmark];show _++_++pvB (rs.length:Int)++_=_;rw[hlen]
    rw[hbody];have hq0:q0=l.drop (eO [n0,n1,n2,n3,n4,n5,n6]).length:=by rw[hl0,List.drop_left]
    have hz1:=fc e1;have htail:q1=jg (mkB [n0,n1,n2,n3,n4,n5,n6] m rs):=by
     match rs,hrl,hso,f1 with
     | [],hrl,_,f1 =>
      have hn0':¬ 0 < n:=by simp at hlen;omega
      rw[if_neg hn0']at hsd;subst hsd;rw[Int.toNat_natCast]at f1;dsimp only at f1;rw[hz1]at f1;rw[f1];simp[jg,mkB,fH]
     | r :: rs,hrl,hso,f1 =>
      have hn0':0 < n:=by simp at hlen;omega
      rw[if_pos hn0']at hsd;subst hsd;obtain⟨q4,g1',g2',g3'⟩:=jv hs;have hst:r.stamp=(fI l (((eO [n0,n1,n2,n3,n4,n5,n6]).length+1+(pvB n).length:Nat):Int)).1:=by simpa [zt]using hso
      rw[g2',Int.toNat_natCast,fc g1']at f1;rw[← hz1,g1',f1,jg];simp only[mkB];rw[hst]
    rw[← htail,hl0]
    conv=>lhs;rw[hq0,hd1,e1]
    simp
theorem pV(x:Batch):0 < (fL x).length:=by
 simp only[fL,length_append,length_cons,List.length_nil];omega
theorem yZ{x:Batch}(hf:kG x):fo 15 (fL x)=some x:=by
 have hf0:=hf;obtain⟨hrc,hrl⟩:=lp hf0;obtain⟨⟨f1,f2,f3⟩,⟨f4,f5,f6⟩,⟨f7,f8,f9,f10⟩,f11,f12,f13⟩:=hf;simp[rng]at f1 f2 f3 f4 f5 f6;have hi:∀ n∈fz x,I64 n:=by
  intro n hn;simp[fz]at hn;unfold I64;omega
 have hb:fL x=eO (fz x)++(kh x :: (pvB x.recs.length++jg x)):=by simp[fL]
 have h7:=yf hi hb 7 (by simp[fz]);rw[show(fz x).take 7=fz x from rfl]at h7;have hctl:x.ctl=0∨x.ctl=1∨x.ctl=2:=by
  rcases f13 with h | h
  ·exact .inl h.1
  ·exact .inr h.1
 have hmark:(kh x).toNat=x.ctl.toNat+(if x.txn=true then 4 else 0):=by
  rw[kh,tT];split <;> omega
 have hmk:mkB (fz x) (kh x) x.recs=x:=by
  have h4:x.base+(x.last - x.base)=x.last:=by omega
  have h5:decide (4≤(kh x).toNat)=x.txn:=by
   rw[hmark];cases x.txn
   ·simp;omega
   ·simp
  have h6:(((kh x).toNat % 4:Nat):Int)=x.ctl:=by
   rw[hmark];split <;> omega
  simp only[mkB,fz,List.getD_cons_zero,List.getD_cons_succ,h4,h5,h6]
 generalize fL x=l at hb h7 ⊢;have hd0:l.drop (eO (fz x)).length=kh x :: (pvB x.recs.length++jg x):=by rw[hb,List.drop_left]
 have hm:=Jj hd0;have hd1:l.drop ((eO (fz x)).length+1)=pvB x.recs.length++jg x:=fc (p:=[kh x]) hd0;have hv:=lT (n:=x.recs.length) (by unfold I64;omega) hd1;have hd2:=fc hd1;have hll:(l.drop ((eO (fz x)).length+1+(pvB (x.recs.length:Int)).length)).length=(jg x).length:=by rw[hd2]
 have hle:(eO (fz x)).length+1+(pvB (x.recs.length:Int)).length+(jg x).length=l.length:=by
  have:=congrArg List.length hb;simp only[length_append,length_cons]at this;omega
 rw[fo,h7];simp only[Option.bind_some];rw[m8];dsimp only;rw[hm];simp only[Option.bind_some];rw[if_pos ⟨by rw[hmark];split <;> omega,by show 0≤x.base∧x.base≤_;omega,by show 0≤x.last - x.base∧x.last - x.base≤_;omega⟩];rw[show(((eO (fz x)).length:Nat):Int)+1=(((eO (fz x)).length+1:Nat):Int)from rfl,hv,nf];dsimp only;rw[if_pos ⟨rfl,by omega,by omega⟩,Int.toNat_natCast]
 generalize (eO (fz x)).length+1+(pvB (x.recs.length:Int)).length=p2 at hd2 hle;have hbase:(fz x).getD 0 0=x.base:=rfl;cases hr:x.recs with
 | nil =>
  rw[hr]at hmk;have ht:jg x=[]:=by rw[jg,hr]
  rw[if_neg (by simp),pY,if_pos rfl,Int.toNat_natCast];simp only[List.length_nil,hX,Option.bind_some];rw[if_pos ⟨by rw[ht]at hle;simpa using hle,rfl⟩,hmk]
 | cons r rs =>
  have ht:jg x=pvB r.stamp++fH x.base r.stamp (r :: rs):=by rw[jg,hr]
  have hc0:=fN (hrc r (by rw[hr];simp));have hsi:=fO.1 hc0.1.2;rw[ht]at hd2 hle;have hv2:=lT (n:=r.stamp) (by unfold I64;omega) hd2;have hd3:=fc hd2;have hg:=ts (q:=[]) (fO.2 f1) hc0.1.2 (fun y hy=>hrc y (by rw[hr];exact hy)) (by rw[hd3,append_nil]) (r :: rs).length (Nat.le_refl _);rw[take_length]at hg;rw[if_pos (by simp only[length_cons];omega),hv2,pY];dsimp only
  rw[if_pos rfl,Int.toNat_natCast,hbase,hg];simp only[Option.bind_some];rw[if_pos ⟨by simp only[length_append]at hle;omega,by simp[zt]⟩,← hr,hmk]
theorem zK(b:Kf):jm (gW b)=(b,0):=by
 have hl:=kd b;have h1:(gW b).take ((gW b).length - 4)=b:=by
  rw[hl,Nat.add_sub_cancel,gW,List.take_left]
 have h2:(gW b).drop ((gW b).length - 4)=mA (DZ b).toNat 4:=by
  rw[hl,Nat.add_sub_cancel,gW,List.drop_left]
 rw[jm,if_neg (by omega),h1,h2,if_pos rfl]
theorem tV{l:Kf}(h:(jm l).2=0):l=gW (jm l).1:=by
 unfold jm at h ⊢;split at h
 ·cases h
 ·rename_i h0;rw[if_neg h0];split at h
  ·rename_i h1;rw[if_pos h1];dsimp only
   conv=>lhs;rw[← List.take_append_drop (l.length - 4) l,h1]
   rfl
  ·cases h
theorem gM(x:Batch):9≤(dK x).length:=by
 have:=pV x;rw[kt];omega
theorem yk{l q:Kf}{a:Nat}{x:Batch}(h0:fx x=0)(h:l.drop a=dK x++q):getB l (a:Int)=(x,((a+(dK x).length:Nat):Int),0):=by
 obtain⟨hf,hbl⟩:=ja h0;have hbp:=gM x;have hb8:=kt x;have hsl:=kd (fL x);have hd:l.drop a=mA (gW (fL x)).length 4++(gW (fL x)++q):=by rw[h,dK,append_assoc]
 have hd4:l.drop (a+4)=gW (fL x)++q:=by
  have:=fc hd
  rwa [gB]at this
 have hn:jA l (a:Int) 4=((gW (fL x)).length,0):=by
  rw[kp,hd,if_neg (by simp[gB]),List.take_left' (gB _ _),lG 4 _ (by omega)]
 rw[getB,hn];dsimp only;rw[if_pos rfl,if_pos ⟨by omega,by omega⟩,Int.toNat_natCast,hd4,if_pos (by simp),List.take_left,zK];dsimp only;rw[if_pos rfl,qB (yZ hf) h0];dsimp only;refine Prod.ext rfl (Prod.ext ?_ rfl);dsimp only;omega
theorem ve{l:Kf}{a:Int}(h:(getB l a).2.2=0):∃ (b:Nat) (q:Kf),a=b∧l.drop b=dK (getB l a).1++q∧(getB l a).2.1=((b+(dK (getB l a).1).length:Nat):Int)∧fx (getB l a).1=0:=by
 unfold getB at h ⊢;split at h;rotate_left
 ·rename_i h0;exact absurd h h0
 rename_i h0;rw[if_pos h0];split at h;rotate_left
 ·cases h
 rename_i h1;rw[if_pos h1];split at h;rotate_left
 ·cases h
 rename_i h2;rw[if_pos h2];split at h;rotate_left
 ·rename_i h3;exact absurd h h3
 rename_i h3;rw[if_pos h3];obtain⟨ha,hal⟩:=(vO h0).resolve_right (by decide);obtain⟨b,rfl⟩:∃ n:Nat,a=n:=⟨a.toNat,by omega⟩;rw[Int.toNat_natCast]at *;have hs:=tV h3;cases hp:xg 15 (jm ((l.drop (b+4)).take (jA l (b:Int) 4).1)).1 with
 | none=>rw[hp]at h;cases h
 | some x =>
  rw[hp]at h;dsimp only;rw[xg]at hp;cases hq:fo 15 (jm ((l.drop (b+4)).take (jA l (b:Int) 4).1)).1 with
  | none=>rw[hq]at hp;cases hp
  | some y =>
   rw[hq]at hp;simp only[Option.bind_some]at hp;split at hp;rotate_left
   ·cases hp
   rename_i h4;cases hp;have hb:=uu hq;rw[hb]at hs;have hn:jA l (b:Int) 4=(mj ((l.drop b).take 4),0):=by
    rw[kp,if_neg (by simp;omega)]
   have hlen:(jA l (b:Int) 4).1=(gW (fL x)).length:=by
    rw[← hs];simp only[List.length_take];omega
   have hd4:l.drop (b+4)=gW (fL x)++(l.drop (b+4)).drop (jA l (b:Int) 4).1:=by
    conv=>lhs;rw[← List.take_append_drop (jA l (b:Int) 4).1 (l.drop (b+4)),hs]
   have hd:l.drop b=(l.drop b).take 4++l.drop (b+4):=by
    rw[← List.drop_drop];exact(List.take_append_drop 4 _).symm
   have h44:(l.drop b).take 4=mA (gW (fL x)).length 4:=by
    rw[← hlen,hn];exact(mX 4 _ (by simp;omega)).symm
   refine⟨b,(l.drop (b+4)).drop (jA l (b:Int) 4).1,rfl,?_,?_,h4⟩
   ·rw[dK,append_assoc,← hd4,← h44];exact hd
   ·rw[dK,length_append,gB,← hlen];omega
def ft(l:Kg):Kf:=l.flatMap dK
theorem pZ{l:Kg}{k:Nat}{x:Batch}(hx:l[k]?=some x):ft (l.take (k+1))=ft (l.take k)++dK x:=by
 unfold ft;rw[List.take_add_one,hx];simp[List.flatMap_append]
theorem xB{l:Kg}{k:Nat}{x:Batch}(hx:l[k]?=some x):(ft l).drop (ft (l.take k)).length=dK x++ft (l.drop (k+1)):=by
 obtain⟨hk,he⟩:=List.getElem?_eq_some_iff.1 hx;have h1:ft l=ft (l.take k)++(dK x++ft (l.drop (k+1))):=by
  conv=>lhs;rw[← List.take_append_drop k l,List.drop_eq_getElem_cons hk,he]
  simp[ft,List.flatMap_append]
 rw[h1,List.drop_left]
theorem Hp{v:W32}(h:stp v=0#32):v=0#32:=by
 cases hb:v.getLsbD 0 with
 | true =>
  exfalso;rw[stp,if_pos hb]at h;have h2:((v >>> 1) ^^^ xH).getLsbD 31=(0#32).getLsbD 31:=by rw[h]
  rw[BitVec.getLsbD_xor,BitVec.getLsbD_ushiftRight]at h2;have h3:v.getLsbD (1+31)=false:=BitVec.getLsbD_of_ge _ _ (by omega);rw[h3]at h2;exact absurd h2 (by decide)
 | false =>
  rw[s9 hb]at h;have h1:(v >>> 1).toNat=0:=by rw[h];rfl
  rw[BitVec.toNat_ushiftRight,Nat.shiftRight_eq_div_pow]at h1;have h2:¬ v.toNat % 2=1:=fun hh=>by rw[(H8 v).2 hh]at hb;cases hb
  apply BitVec.eq_of_toNat_eq;show v.toNat=0;omega
theorem ul{l:Kf}{a c:Nat}{b:Batch}(h0:fx b=0)(hc:c < (dK b).length)(hd:l.drop a=(dK b).take c):getB l (a:Int)=(kD,0,10):=by
 obtain⟨hf,hbl⟩:=ja h0;have lb:=kt b;have hsb:=kd (fL b);have hP:=gB (gW (fL b)).length 4;have hbp:=pV b;have hl:(l.drop a).length=c:=by rw[hd,List.length_take];omega
 by_cases h4:c < 4
 ·have hn:jA l (a:Int) 4=(0,10):=by
   rw[kp,if_pos (by omega)]
  rw[getB,hn];rfl
 ·have hn:jA l (a:Int) 4=((gW (fL b)).length,0):=by
   rw[kp,if_neg (by omega),hd,List.take_take,Nat.min_eq_left (by omega),dK,List.take_left' hP,lG 4 _ (by omega)]
  have hl4:(l.drop (a+4)).length=c - 4:=by rw[List.length_drop]at hl ⊢;omega
  rw[getB,hn];dsimp only;rw[if_pos rfl,if_pos ⟨by omega,by omega⟩,Int.toNat_natCast,if_neg (by omega)]
structure Sg where
 base:Int
 bytes:Kf
deriving DecidableEq
def uY:Int→Kg→Prop
 | _,[]=>True
 | nx,x :: xs=>nx≤x.base∧uY (x.last+1) xs
def eF:Int→Kg→Int
 | nx,[]=>nx
 | _,x :: xs=>eF (x.last+1) xs
def o5(q:Kf)(nx:Int):Prop:=(getB q 0).2.2=0∧nx≤(getB q 0).1.base
instance (q:Kf) (nx:Int):Decidable (o5 q nx):=by unfold o5;infer_instance
def yE:Nat→Int→Kf→Kg
 | 0,_,_=>[]
 | f+1,nx,q=>if o5 q nx then(getB q 0).1 :: yE f ((getB q 0).1.last+1) (q.drop (dK (getB q 0).1).length)else[]
structure Scans (nx:Int) (q:Kf) (bs:Kg) (r:Kf):Prop where
 eq:q=ft bs++r
 ok:∀ x∈bs,fx x=0
 ord:uY nx bs
 stop:¬ o5 r (eF nx bs)
def ef(s:Sg):Kg:=yE s.bytes.length s.base s.bytes
def f0(s:Sg):Nat:=(ft (ef s)).length
def gY(s:Sg):Int:=eF s.base (ef s)
theorem fm(x:Batch)(l:Kg):ft (x :: l)=dK x++ft l:=rfl
theorem lu(a b:Kg):ft (a++b)=ft a++ft b:=by simp[ft]
theorem fY(nx:Int)(a b:Kg):eF nx (a++b)=eF (eF nx a) b:=by
 induction a generalizing nx with
 | nil=>rfl
 | cons x a ih=>exact ih _
theorem oL(nx:Int)(a b:Kg):uY nx (a++b)↔uY nx a∧uY (eF nx a) b:=by
 induction a generalizing nx with
 | nil=>simp[uY,eF]
 | cons x a ih=>simp only[List.cons_append,uY,eF,ih,and_assoc]
theorem sL{q s:Kf}{x:Batch}(h0:fx x=0)(h:q=dK x++s):getB q 0=(x,((dK x).length:Int),0):=by
 have:=yk (l:=q) (a:=0) h0 h;rw[Nat.zero_add]at this;exact this
theorem o3{q:Kf}{nx:Int}(h:o5 q nx):∃ x s,getB q 0=(x,((dK x).length:Int),0)∧q=dK x++s∧fx x=0∧nx≤x.base:=by
 obtain⟨h1,h2⟩:=h;obtain⟨b,s,e0,e1,e2,e3⟩:=ve h1;have hb:b=0:=by omega
 subst hb;exact⟨_,s,sL e3 e1,e1,e3,h2⟩
theorem ru{q s:Kf}{x:Batch}{nx:Int}(h0:fx x=0)(h:q=dK x++s):o5 q nx↔nx≤x.base:=by
 rw[o5,sL h0 h];simp
theorem ot:∀ (f:Nat) (nx:Int) (q:Kf),q.length≤f→∃ r,Scans nx q (yE f nx q) r
 | 0,nx,q,h=>by
  have hq:q=[]:=List.eq_nil_of_length_eq_zero (by omega);subst hq;refine⟨[],⟨rfl,fun x hx=>(by cases hx),trivial,fun hm=>?_⟩⟩;obtain⟨x,s,-,e,-⟩:=o3 hm;have:=gM x;have h2:=congrArg List.length e;simp at h2;omega
 | f+1,nx,q,h=>by
  unfold yE;split
  ·rename_i hm;obtain⟨x,s,e1,e2,e3,e4⟩:=o3 hm;rw[e1];dsimp only;have hp:=gM x;have hd:q.drop (dK x).length=s:=by rw[e2,List.drop_left]
   rw[hd];obtain⟨r,hr⟩:=ot f (x.last+1) s (by rw[e2,length_append]at h;omega);refine⟨r,⟨by rw[fm,append_assoc,← hr.eq,e2],fun y hy=>?_,⟨e4,hr.ord⟩,hr.stop⟩⟩;rcases List.mem_cons.1 hy with rfl | hy
   ·exact e3
   ·exact hr.ok y hy
  ·rename_i hm;exact⟨q,⟨rfl,fun x hx=>(by cases hx),trivial,hm⟩⟩
theorem eG(s:Sg):∃ r,Scans s.base s.bytes (ef s) r:=ot _ _ _ (Nat.le_refl _)
theorem Scans.uniq:∀ {bs bs':Kg} {nx:Int} {q r r':Kf},Scans nx q bs r→Scans nx q bs' r'→bs=bs'∧r=r'
 | [],[],nx,q,r,r',h,h'=>⟨rfl,by have:=h.eq.symm.trans h'.eq;exact this⟩
 | [],x :: bs',nx,q,r,r',h,h'=>by
  have hq:q=r:=h.eq;subst hq;exact absurd ((ru (h'.ok x (.head _)) (by rw[h'.eq,fm,append_assoc])).2 h'.ord.1) h.stop
 | x :: bs,[],nx,q,r,r',h,h'=>by
  have hq:q=r':=h'.eq;subst hq;exact absurd ((ru (h.ok x (.head _)) (by rw[h.eq,fm,append_assoc])).2 h.ord.1) h'.stop
 | x :: bs,y :: bs',nx,q,r,r',h,h'=>by
  have e1:q=dK x++(ft bs++r):=by rw[h.eq,fm,append_assoc]
  have e2:q=dK y++(ft bs'++r'):=by rw[h'.eq,fm,append_assoc]
  have g1:=sL (h.ok x (.head _)) e1;have g2:=sL (h'.ok y (.head _)) e2;rw[g1]at g2;have hxy:x=y:=congrArg Prod.fst g2;subst hxy;rw[e1]at e2;have e3:=List.append_cancel_left e2;obtain⟨rfl,rfl⟩:=Scans.uniq (nx:=x.last+1) (q:=ft bs++r) ⟨rfl,fun z hz=>h.ok z (.tail _ hz),h.ord.2,h.stop⟩ ⟨e3,fun z hz=>h'.ok z (.tail _ hz),h'.ord.2,h'.stop⟩;exact⟨rfl,rfl⟩
theorem Scans.is{s:Sg}{bs:Kg}{r:Kf}(h:Scans s.base s.bytes bs r):ef s=bs:=by
 obtain⟨r',h'⟩:=eG s;exact(h'.uniq h).1
theorem xO{l:Kf}{a:Nat}:(getB l (a:Int)).1=(getB (l.drop a) 0).1∧(getB l (a:Int)).2.2=(getB (l.drop a) 0).2.2:=by
 have h1:jA l (a:Int) 4=jA (l.drop a) 0 4:=by
  unfold jA;rw[if_neg (show ¬ (a:Int) < 0 by omega),if_neg (show ¬ (0:Int) < 0 by omega)];simp only[Int.toNat_natCast,Int.toNat_zero,List.drop_zero]
 have h2:l.drop (a+4)=(l.drop a).drop 4:=by rw[List.drop_drop]
 unfold getB;rw[h1];simp only[Int.toNat_natCast,h2,Int.toNat_zero,Nat.zero_add];split
 ·split
  ·split
   ·split
    ·split <;> exact⟨rfl,rfl⟩
    ·exact⟨rfl,rfl⟩
   ·exact⟨rfl,rfl⟩
  ·exact⟨rfl,rfl⟩
 ·exact⟨rfl,rfl⟩
theorem iX(l:Kg)(k:Nat):(ft (l.take k)).length≤(ft l).length:=by
 conv=>rhs;rw[← List.take_append_drop k l,lu,length_append]
 omega
theorem Scans.len{nx:Int}{q r:Kf}{bs:Kg}(h:Scans nx q bs r):9 * bs.length≤(ft bs).length∧(ft bs).length≤q.length:=by
 refine⟨?_,by rw[h.eq,length_append];omega⟩;clear h
 induction bs with
 | nil=>simp
 | cons x bs ih =>
  have:=gM x;rw[fm,length_append,length_cons];omega
theorem Scans.at_{nx:Int}{q r:Kf}{bs:Kg}(h:Scans nx q bs r){k:Nat}{x:Batch}(hx:bs[k]?=some x):
  getB q (((ft (bs.take k)).length:Nat):Int)=(x,(((ft (bs.take (k+1))).length:Nat):Int),0)∧eF nx (bs.take k)≤x.base∧eF nx (bs.take (k+1))=x.last+1∧fx x=0:=by
 have hd:q.drop (ft (bs.take k)).length=dK x++(ft (bs.drop (k+1))++r):=by
  have:=xB hx;rw[h.eq,List.drop_append_of_le_length (iX _ _),this,append_assoc]
 obtain⟨hk,he⟩:=List.getElem?_eq_some_iff.1 hx;have e1:bs=bs.take k++(x :: bs.drop (k+1)):=by
  conv=>lhs;rw[← List.take_append_drop k bs,List.drop_eq_getElem_cons hk,he]
 have ho:=h.ord;rw[e1,oL]at ho;have h0:=h.ok x (mem_of_getElem? hx);refine⟨?_,ho.2.1,?_,h0⟩
 ·rw[yk h0 hd,pZ hx,length_append]
 ·rw[List.take_add_one,hx];show eF nx (bs.take k++[x])=_;rw[fY];rfl
theorem Scans.end_{nx:Int}{q r:Kf}{bs:Kg}(h:Scans nx q bs r):¬ (getB q (((ft bs).length:Nat):Int)).2.2=0∨(getB q (((ft bs).length:Nat):Int)).1.base < eF nx bs:=by
 have hs:=h.stop;have hd:=@xO q (ft bs).length;have e:q.drop (ft bs).length=r:=by rw[h.eq,List.drop_left]
 rw[e]at hd;rw[hd.1,hd.2];unfold o5 at hs;by_cases h0:(getB r 0).2.2=0
 ·right;have:¬ eF nx bs≤(getB r 0).1.base:=fun hh=>hs ⟨h0,hh⟩
  omega
 ·exact .inl h0
theorem F151:Fun Tryz.prog 151 4 v151 c151 o151:=Fun.mkA Tryz.func151 Tryz.ntmps151
theorem F177:Fun Tryz.prog 177 37 v177 c177 o177:=Fun.mkA Tryz.func177 Tryz.ntmps177
theorem F131:Fun Tryz.prog 131 17 v131 c131 o131:=Fun.mkA Tryz.func131 Tryz.ntmps131
theorem F114:Fun Tryz.prog 114 15 v114 c114 o114:=Fun.mkA Tryz.func114 Tryz.ntmps114
theorem mg{s:Nat}:∀ {L:J8},dR L→rmR s L=L
 | [],_=>rfl
 | .reg s' cs :: L,h=>absurd (.head _) (h s' cs)
 | .blk b cs :: L,h=>congrArg (Kx.Item.blk b cs :: ·) (mg (s:=s) fun s cs hm=>h s cs (.tail _ hm))
 | .row v e sz n xs :: L,h=>congrArg (Kx.Item.row v e sz n xs :: ·) (mg (s:=s) fun s cs hm=>h s cs (.tail _ hm))
 | .obj b o :: L,h=>congrArg (Kx.Item.obj b o :: ·) (mg (s:=s) fun s cs hm=>h s cs (.tail _ hm))
theorem EP{h:H}{b b':Nat}{c c':J6}(hs:List.Sublist [Kx.Item.blk b c,.blk b' c'] h.L):eD h fun h'=>h'=h∧¬ b=b':=eD.fact fun β w s=>by
 have hd:(dom β [Kx.Item.blk b c,.blk b' c']).Sublist (dom β h.L):=hs.filterMap _;have:=hd.nodup (List.nodup_append.1 s.nd).1;simpa [dom,Item.block]using this
theorem eN{α:Type}{E E':α→J6→Prop}{sz:Nat}{xs:List α}{ys:J6}(h:Cells E sz xs ys)(hE:∀ x cs,E x cs→E' x cs):Cells E' sz xs ys:=by
 induction h with
 | nil=>exact .nil
 | cons h1 h2 _ ih=>exact .cons (hE _ _ h1) h2 ih
def ip(s:Sg)(A:Ka)(c:Nat):J6:=[.int .i64 s.base,.slice A s.bytes.length c]
def SE(G:J5)(s:Sg)(cs:J6):Prop:=∃ A c,cs=ip s A c∧SB G (.slice A s.bytes.length c) s.bytes∧I64 s.base
theorem SE.le{G G':J5}(hg:Gle G G'){s:Sg}{cs:J6}(h:SE G s cs):SE G' s cs:=by
 obtain⟨A,c,h1,h2,h3⟩:=h;exact⟨A,c,h1,SB.le h2 hg,h3⟩
def EB(bs:Kg)(G:J5)(k:Nat)(args:Array Value):Prop:=∃ x cs,bs[k]?=some x∧BE G x cs∧args=#[.agg cs.toArray,.int .i64 (((ft (bs.take (k+1))).length:Nat):Int)]
theorem Bn{x:Batch}(h:fx x=0):IntKind.i64.wrap (x.last+1)=x.last+1:=by
 obtain⟨⟨-,f2,-⟩,-⟩:=(ja h).1;simp[rng]at f2;rw[dX] <;> omega
theorem pi{n k i:Nat}(h:(List.range n)[k]?=some i):i=k∧k < n:=by
 have h1:=(List.getElem?_eq_some_iff.1 h).1;rw[List.length_range]at h1;rw[List.getElem?_range h1]at h;cases h;exact⟨rfl,h1⟩
theorem uJ(s:Sg)(A:Ka)(c b:Nat)(G0:J5)(hl:SB G0 (.slice A s.bytes.length c) s.bytes)(hb:s.bytes.length≤1000000)(h0:eZ G0 ⟨b,0,none⟩=some (.int .i64 s.base))(h1:eZ G0 ⟨b,1,none⟩=some (.slice A s.bytes.length c)):
  kC Tryz.prog 177 #[.pointer (some ⟨b,0,none⟩)] (List.range (ef s).length) (EB (ef s)) G0:=by
 obtain⟨r,hsc⟩:=eG s;generalize ef s=bs at hsc;intro yl I Ix G L hG hn hI hIx hmo hi0 hy L2 D;have hargs:(#[.func (.yield yl) #[] #[]]++#[.pointer (some ⟨b,0,none⟩)]:Array Value)=#[.func (.yield yl) #[] #[],.pointer (some ⟨b,0,none⟩)]:=rfl;rw[hargs,List.length_range];refine(F177.calls (R:=fun _ h=>Gle G h.G∧(I bs.length h.G h.L∨∃ i,i < bs.length∧Ix i h.G h.L)) (by simp) hn (dI ?_) L2 D).mono ?_
 rotate_left
 ·rintro v h' ⟨G',L',rfl,hn',hgg,hr⟩;exact⟨G',L',rfl,hgg,hn',hr⟩
 have e0:=dN hG h0;have e1:=dN hG h1;have hlG:=SB.le hl hG;have hlen:=hsc.len;unfold c177;intros;refine dy ?_;refine uS 8 10 (by decide) ?_;refine sJ c177r0.eq_1 ?_;refine⟨_,⟨_,rfl,.g e0⟩,?_⟩;refine sI ?_;intros;refine dy ?_
 refine dV (fun e h=>∃ (t:Nat) (G':J5) (L' Lh:J8),(t≤bs.length∧Gle G G'∧dR L'∧I t G' L')∧e 3=.int .i64 (((ft (bs.take t)).length:Nat):Int)∧e 4=.int .i64 (eF s.base (bs.take t))∧e 0=.func (.yield yl) #[] #[]∧e 1=.pointer (some ⟨b,0,none⟩)∧h=⟨G',Lh,[]⟩∧L'.Sublist Lh) (fun e h=>s.bytes.length+1 - iv (e 3)) ?_ ?_
 ·exact⟨0,G,L,L,⟨Nat.zero_le _,.refl G,hn,hi0⟩,rfl,rfl,eE,eE,rfl,List.Sublist.refl _⟩
 rintro e h ⟨t,G',L',Lh,⟨ht,hgg,hn',hI'⟩,e3,e4,e00,e11,rfl,hsub⟩;refine dC [0,1,3,4] ?_;refine sJ4 @e00 @e11 @e3 @e4 ?_;intros;refine dA (dE hsub) ?_;have hrm:=mg (s:=5) hn';have e1':=dN hgg e1;have hget:=BN s.bytes (((ft (bs.take t)).length:Nat):Int) _ G' (SB.le hlG hgg) hb;unfold yR at hget;have htk:=iX bs t
 have hw1:IntKind.i64.wrap (((ft (bs.take t)).length:Nat):Int)=(((ft (bs.take t)).length:Nat):Int):=by rw[dX] <;> omega
 intros;refine gR 10 18 c177r1.eq_1 ?_;refine⟨_,⟨_,rfl,.g e1'⟩,?_⟩;refine sI ?_;refine(hget _ _).mono ?_;rintro v h' ⟨G1,rfl,hg1,cs,rfl,hbe⟩;by_cases htl:t < bs.length
 ·obtain⟨x,hx⟩:∃ x,bs[t]?=some x:=⟨bs[t],getElem?_eq_getElem htl⟩;obtain⟨a1,a2,a3,a4⟩:=hsc.at_ hx;rw[a1]at hbe ⊢;dsimp only at hbe ⊢;have hbe0:=hbe;obtain⟨B,d,rfl,-⟩:=hbe;have hlt:(ft (bs.take t)).length < (ft (bs.take (t+1))).length:=by
   have:=gM x;rw[pZ hx,length_append];omega
  have hle:=iX bs (t+1);have hEB:EB bs G1 t #[.agg (eP x (.slice B x.recs.length d)).toArray,.int .i64 (((ft (bs.take (t+1))).length:Nat):Int)]:=⟨x,_,hx,hbe0,rfl⟩;unfold eP at hbe0 hEB ⊢;generalize hn1:(ft (bs.take (t+1))).length=n1 at *;generalize (ft (bs.take t)).length=n0 at *;have a2':decide (x.base < eF s.base (bs.take t))=false:=decide_eq_false (by omega);have hlw:=Bn a4;refine sJ @hrm ?_
  have hz:decide ((0:Int)≠0)=false:=by decide
  intros;refine gr 18 32 ?_;refine sJ3 c177r2.eq_1 @hz @a2' ?_;refine .inr ⟨yl,rfl,?_⟩;refine iW.ghost (ee (List.perm_append_comm (l₁:=[_]))) ?_;refine(hy t t _ G1 L' (List.getElem?_range htl) (hgg.trans hg1) hEB (hmo _ _ _ _ hg1 hI') [_] []).mono ?_;rintro v h' ⟨G2,L3,rfl,hg2,hn2,hr⟩;rcases hr with⟨rfl,hr⟩ | ⟨rfl,hr⟩
  ·refine sI ?_;intros;refine gC ?_;refine dA (ee (List.perm_append_comm (l₂:=[_]))) ?_;intros;refine dy ?_;refine uS 33 37 (by decide) ?_;refine sJ2 c177r3.eq_1 @hlw ?_;intros;refine dy ?_;refine ej ⟨⟨t+1,G2,L3,_,⟨by omega,(hgg.trans hg1).trans hg2,hn2,hr⟩,(eJ @hn1),(eJ @a3),eE,eE,rfl,.cons _ Kl⟩,?_⟩;refine sI ?_;omega
  ·refine sI ?_;intros;refine gC ?_;intros;refine dy ?_;refine dG (dL L3 rfl (List.sublist_append_left _ _) hn2 ?_);exact⟨(hgg.trans hg1).trans hg2,.inr ⟨t,htl,hr⟩⟩
 ·have htl:t=bs.length:=by omega
  subst htl;rw[take_length]at hget hbe ⊢;have hend:=hsc.end_;generalize getB s.bytes (((ft bs).length:Nat):Int)=q at *;obtain⟨x,nx,er⟩:=q;dsimp only at hbe hend ⊢;obtain⟨B,d,rfl,-⟩:=hbe;unfold eP;have hfin:Gle G G1∧(I bs.length G1 L'∨∃ i,i < bs.length∧Ix i G1 L'):=⟨hgg.trans hg1,.inl (hmo _ _ _ _ hg1 hI')⟩;refine sJ @hrm ?_;intros;refine gR 18 32 c177r2.eq_1 ?_
  refine gd (fun k1=>?_) (fun k1=>?_)
  ·refine sI ?_;intros;refine gC ?_;intros;refine dy ?_;exact dG (dL L' rfl (.cons _ Kl) hn' hfin)
  ·have k1:er=0:=by simpa using k1
   have k2:decide (x.base < eF s.base bs)=true:=decide_eq_true (by rcases hend with h | h;exact absurd k1 h;exact h)
   refine sJ @k2 ?_;intros;refine gC ?_;intros;refine dy ?_;exact dG (dL L' rfl (.cons _ Kl) hn' hfin)
theorem rM(s:Sg)(cs:J6)(G:J5)(hs:SE G s cs)(hb:s.bytes.length≤1000000):
  FnD Tryz.prog 151 #[.agg cs.toArray] G (fun G' r=>∃ b,r=.func (.func 177) #[] #[.pointer (some ⟨b,0,none⟩)]∧kC Tryz.prog 177 #[.pointer (some ⟨b,0,none⟩)] (List.range (ef s).length) (EB (ef s)) G'):=by
 obtain⟨A,c,rfl,hl,hi⟩:=hs;refine F151.fnD (by simp) (dI ?_);unfold c151 ip;intros;refine gR 0 0 c151r0.eq_1 ?_;intro b1 hb1;intros;refine dy ?_;refine ei js ?_;rintro h' ⟨G1,rfl,hg1,hc1⟩;have e0:=hc1 0 _ rfl;have e1:=hc1 1 _ rfl;rw[eA]at e0 e1;intros;refine gR 3 4 c151r1.eq_1 ?_;intros;refine rW ?_;exact⟨b1,rfl,uJ s A c b1 G1 (SB.le hl hg1) hb e0 e1⟩
def Fm(s:Sg)(G':J5)(L':J8)(r:Value):Prop:=∃ u zc,r=.tuple #[u,.int .i64 ((f0 s:Nat):Int)]∧Cells (BE G') 10 (ef s) zc∧L'=[.row u 43 10 (ef s).length zc]
theorem pt(s:Sg)(cs:J6)(G:J5)(hs:SE G s cs)(hb:s.bytes.length≤1000000):FnO Tryz.prog 131 #[.agg cs.toArray] G [] (fun G' L' r=>Fm s G' L' r):=by
 have hs0:=hs;obtain⟨A,c,rfl,hl,hi⟩:=hs;refine F131.fnO (by simp) dw (dI ?_);unfold c131;unfold ip at hs0 ⊢;intros;refine gR 0 0 c131r0.eq_1 ?_;intro b1 hb1 b2 hb2 b3 hb3;intros;refine dy ?_;refine ei (eg [_,_] _) ?_;rintro h' ⟨G1,rfl,hg1,f1⟩;have e0:=f1 0 _ rfl;have e1:=f1 1 _ rfl;rw[eA]at e0 e1;intros;refine gR 6 7 c131r1.eq_1 ?_
 refine⟨_,⟨_,[.int .i64 s.base,.slice A s.bytes.length c],rfl,rfl,rfl,fun j u hu=>.g (f1 j u hu)⟩,?_⟩;refine sI ?_;refine(rM s _ G1 (SE.le hg1 hs0) hb _ _).mono ?_;rintro r h' ⟨G2,rfl,hg2,b,rfl,hit⟩;obtain⟨rr,hsc⟩:=eG s;have hSR:∀ G' u zc,Cells (BE G') 10 (ef s) zc→Fm s G' [.row u 43 10 (ef s).length zc] (.tuple #[u,.int .i64 (((ft (ef s)).length:Nat):Int)]):=fun G' u zc h=>⟨u,zc,rfl,h,rfl⟩
 generalize ef s=bs at hit hsc hSR;have hlen:=hsc.len;refine sI ?_;intros;refine dy ?_;refine dA (dW none 43 10) ?_;refine rA (α:=Nat) (fun k G' L'=>∃ u zc,L'=[.row u 43 10 (bs.take k).length zc,.blk b3 [.int .i64 (((ft (bs.take k)).length:Nat):Int)],.blk b2 [u]]∧Cells (BE G') 10 (bs.take k) zc) (fun _ _ _ _=>False) (eE) F177.enters (dz (dF (dF dw)))
  (fun i G G' L hg ⟨u,zc,h1,h2⟩=>⟨u,zc,h1,eN h2 fun _ _ h=>BE.le hg h⟩) hit (fun G x args h=>by obtain⟨y,_,_,_,rfl⟩:=h;rfl) ⟨_,[],rfl,.nil⟩ ?_ ?_ ?_
 ·rintro yl k i args G' L' hki hgl ⟨x,cs,hx,hbe,rfl⟩ ⟨u,zc,rfl,hzc⟩ _;obtain⟨rfl,hkl⟩:=pi hki;have hbe0:=hbe;obtain⟨B,d,rfl,-⟩:=hbe;unfold eP at hbe0 ⊢;refine sI ?_;intros;refine gR 0 0 c131r2.eq_1 ?_;intros;refine gR 0 0 c131r3.eq_1 ?_;intro bb;refine fU (rX ?_);have htk:bs.take (i+1)=bs.take i++[x]:=by rw[List.take_add_one,hx];rfl
  have hkl2:(bs.take i).length≤bs.length:=by rw[List.length_take];omega
  intros;refine gR 10 15 c131r4.eq_1 ?_;refine⟨_,dH (.tail _ (.tail _ (.tail _ (.head _)))) rfl,?_⟩;refine sI ?_;intro bk hbk;refine yu (L1:=[_]) (L2:=[_,_]) (E:=BE G') (x:=x) rfl hbe0 rfl (by simp[Value.oneCell']) hzc (by omega) (by omega) fun A' c' zc' hzc'=>?_
  rw[← htk]at hzc' ⊢;refine sI ?_;refine dM [_,_,_,_] [] rfl (by simp) ⟨rfl,rfl⟩ ?_;refine sI ?_;refine dM [_,_,_] [_] rfl (by simp) ⟨rfl,rfl⟩ ?_;refine sI ?_;intros;refine dy ?_;refine fU (qf _ (.cons _ (.cons _ Kl)) (dz (dF (dF dw))) ⟨_,zc',rfl,hzc'⟩)
 ·rintro G' L' dd hgl ⟨u,zc,rfl,hzc⟩ _;rw[List.length_range]at hzc ⊢;rw[take_length]at hzc ⊢;intros;refine dy ?_;refine ei (gU (.head _)) ?_;rintro h' ⟨rfl,A2,c2,rfl,-,-⟩;refine ei (EP (.cons _ Kl)) ?_;rintro h' ⟨rfl,hne⟩;intros;refine dy ?_;refine qY _ Kl (by decide) ?_;refine sJ c131r5.eq_1 ?_;refine⟨_,dH (.tail _ (.tail _ (.head _))) rfl,?_⟩;refine sI ?_
  refine⟨_,dH (.tail _ (.head _)) rfl,?_⟩;refine sI ?_;refine dM [_,_] [] rfl (by simp) ⟨rfl,rfl⟩ ?_;refine sI ?_;refine dM [_] [_] rfl (by simp) ⟨rfl,rfl⟩ ?_;refine sI ?_;intros;refine dy ?_;refine dG (dL (out:=[.slice A2 bs.length c2,.int .i64 (((ft bs).length:Nat):Int)]) _ ?_ (.cons_cons _ Km) (dz dw) (hSR G' _ _ hzc));simp[o131,mc,Kx.getB,u4,ldC,Env.set,hne]
 ·rintro ex i G' L' d _ _ h;exact h.elim
theorem yA{bs:Kg}{k:Nat}{x:Batch}(nx:Int)(hx:bs[k]?=some x):eF nx (bs.take (k+1))=x.last+1:=by
 rw[List.take_add_one,hx];show eF nx (bs.take k++[x])=_;rw[fY];rfl
theorem vY(s:Sg)(cs:J6)(G:J5)(hs:SE G s cs)(hb:s.bytes.length≤1000000):FnS Tryz.prog 114 #[.agg cs.toArray] G (.int .i64 (gY s)):=by
 have hs0:=hs;obtain⟨A,c,rfl,hl,hi⟩:=hs;refine F114.fnS (by simp) (dI ?_);unfold c114;unfold ip at hs0 ⊢;intros;refine gR 0 0 c114r0.eq_1 ?_;intro b1 hb1;intros;refine dy ?_;refine ei js ?_;rintro h' ⟨G1,rfl,hg1,f1⟩;have e0:=f1 0 _ rfl;rw[eA]at e0;intros;refine gR 5 7 c114r1.eq_1 ?_;refine⟨_,⟨_,rfl,.g e0⟩,?_⟩;refine sI ?_;intro b3 hb3;refine dM [] [] rfl (by simp) ⟨rfl,rfl⟩ ?_;refine sI ?_
 intros;refine gR 7 8 c114r2.eq_1 ?_;refine⟨_,⟨_,[.int .i64 s.base,.slice A s.bytes.length c],rfl,rfl,rfl,fun j u hu=>.g (f1 j u hu)⟩,?_⟩;refine sI ?_;refine(rM s _ G1 (SE.le hg1 hs0) hb _ _).mono ?_;rintro r h' ⟨G2,rfl,hg2,b,rfl,hit⟩;obtain⟨rr,hsc⟩:=eG s;have hend:gY s=eF s.base (ef s):=rfl;generalize ef s=bs at hit hsc hend;refine sI ?_;intros;refine dy ?_
 refine rA (α:=Nat) (fun k G' L'=>L'=[.blk b3 [.int .i64 (eF s.base (bs.take k))]]) (fun _ _ _ _=>False) (eE) F177.enters (dF dw)
  (fun i G G' L hg h=>h) hit (fun G x args h=>by obtain⟨y,_,_,_,rfl⟩:=h;rfl) rfl ?_ ?_ ?_
 ·rintro yl k i args G' L' hki hgl ⟨x,cs,hx,hbe,rfl⟩ rfl _;obtain⟨rfl,hkl⟩:=pi hki;obtain⟨B,d,rfl,-⟩:=hbe;have hlw:=Bn (hsc.ok x (mem_of_getElem? hx));unfold eP;refine sI ?_;intros;refine gR 0 0 c114r3.eq_1 ?_;intro bb;refine fU (rX ?_);intros;refine gR2 12 14 c114r4.eq_1 @hlw ?_;refine dM [_] [] rfl (by simp) ⟨rfl,rfl⟩ ?_;refine sI ?_;intros;refine dy ?_
  refine fU (qf [.blk b3 [.int .i64 (x.last+1)]] (.cons _ Kl) (dF dw) ?_);rw[yA s.base hx]
 ·rintro G' L' dd hgl rfl _;rw[List.length_range,take_length,← hend];intros;refine gR 14 15 c114r5.eq_1 ?_;refine⟨_,dH (.head _) rfl,?_⟩;refine sI ?_;intros;refine rV ?_;simp only[push_cast,Nat.reduceBEq]
 ·rintro ex i G' L' d _ _ h;exact h.elim
theorem F172:Fun Tryz.prog 172 13 v172 c172 o172:=Fun.mkA Tryz.func172 Tryz.ntmps172
theorem F155:Fun Tryz.prog 155 9 v155 c155 o155:=Fun.mkA Tryz.func155 Tryz.ntmps155
theorem F156:Fun Tryz.prog 156 9 v156 c156 o156:=Fun.mkA Tryz.func156 Tryz.ntmps156
theorem F158:Fun Tryz.prog 158 10 v158 c158 o158:=Fun.mkA Tryz.func158 Tryz.ntmps158
theorem F181:Fun Tryz.prog 181 27 v181 c181 o181:=Fun.mkA Tryz.func181 Tryz.ntmps181
theorem F157:Fun Tryz.prog 157 36 v157 c157 o157:=Fun.mkA Tryz.func157 Tryz.ntmps157
theorem rc{α:Type}{P:Program}{f:FuncId}{args:Array Value}{G:J5}{E:α→J6→Prop}{et sz:Nat}{zs:List α}(hf:FnO P f args G [] (fun _ L' r=>yv E et sz zs L' r)):
  FnO P f args G [] (fun _ L' r=>∃ A c ys,r=.slice A zs.length c∧(zs.length≤c∧c≤maxLen)∧Cells E sz zs ys∧L'=[.row r et sz zs.length ys]):=fun L D =>
 (hf L D).gx fun v h' ⟨G',L',he,hg,ys,hc,hL⟩=>by
  subst he hL;exact(gU (.head _)).mono fun h' ⟨h1,A,c,h2,h3,h4⟩=>⟨G',_,h1,hg,A,c,ys,h2,⟨h3,h4⟩,hc,rfl⟩
def jQ:Sg:=⟨0,[]⟩
def vT(s:Sg)(L':J8)(r:Value):Prop:=∃ u zc,r=.agg #[.int .i64 s.base,u]∧L'=[.row u 5 1 s.bytes.length zc]∧Cells UE 1 s.bytes zc
def uK(p:Sg × Int)(L':J8)(r:Value):Prop:=∃ u zc,r=.tuple #[.agg #[.int .i64 p.1.base,u],.int .i64 p.2]∧L'=[.row u 5 1 p.1.bytes.length zc]∧Cells UE 1 p.1.bytes zc
def nS(n:Int):Bool:=decide (1≤n) && decide (n≤4096)
theorem sW(n:Int)(G:J5):FnS Tryz.prog 155 #[.int .i64 n] G (.bool (inO n)):=by
 refine F155.fnS (by simp) (dI ?_);unfold c155;intros;refine gR 0 0 c155r0.eq_1 ?_;intros;refine gR 3 9 c155r1.eq_1 ?_;refine gdD (fun h=>?_) (fun h=>?_)
 ·refine sI ?_;intros;refine rW ?_;rw[inO,decide_eq_true h,Bool.true_and]
 ·refine sI ?_;intros;refine rW ?_;rw[inO,decide_eq_false h,Bool.false_and]
theorem ou(n:Int)(G:J5):FnS Tryz.prog 156 #[.int .i64 n] G (.bool (nS n)):=by
 refine F156.fnS (by simp) (dI ?_);unfold c156;intros;refine gR 0 0 c156r0.eq_1 ?_;intros;refine gR 3 9 c156r1.eq_1 ?_;refine gdD (fun h=>?_) (fun h=>?_)
 ·refine sI ?_;intros;refine rW ?_;rw[nS,decide_eq_true h,Bool.true_and]
 ·refine sI ?_;intros;refine rW ?_;rw[nS,decide_eq_false h,Bool.false_and]
def uT(base:Int):Sg × Int:=if inO base=true then(⟨base,[]⟩,0)else(jQ,1)
theorem FX(base:Int)(G:J5):FnO Tryz.prog 158 #[.int .i64 base] G [] (fun _ L' r=>uK (uT base) L' r):=by
 refine F158.fnO (by simp) dw (dI ?_);unfold c158;intros;refine gR 0 0 c158r0.eq_1 ?_;intros;refine gR 4 6 c158r1.eq_1 ?_;refine fK (sW _ _ _ _) ?_;intros;refine gC ?_;refine gb (fun h=>?_) (fun h=>?_)
 ·have h:¬ inO base=true:=by simpa using h
  intros;refine gR 7 8 c158r2.eq_1 ?_;intros;refine dy ?_;refine dA (dW none 5 1) ?_;refine dG (dL _ rfl (.cons_cons _ Km) (dz dw) ?_);rw[uT,if_neg h];exact⟨_,[],rfl,rfl,.nil⟩
 ·have h:inO base=true:=by simpa using h
  intros;refine gN ?_;intros;refine gR 8 10 c158r3.eq_1 ?_;intros;refine dy ?_;refine dA (dW none 5 1) ?_;refine dG (dL _ rfl (.cons_cons _ Km) (dz dw) ?_);rw[uT,if_pos h];exact⟨_,[],rfl,rfl,.nil⟩
theorem CD(n:Nat)(G:J5)(hn:n≤1000000):FnO Tryz.prog 181 #[.slice none 0 0,.int .i64 (n:Int)] G [] (fun _ L' r=>sn [] L' r):=by
 refine F181.fnO (by simp) dw (dI ?_);unfold c181;have w1:IntKind.i64.wrap ((n:Int) - IntKind.i64.wrap (0 - 0))=(n:Int):=by simp only[IntKind.wrap_i64];omega
 have h0:decide ((n:Int) < 0)=false:=decide_eq_false (by omega);intros;refine gR 0 0 c181r0.eq_1 ?_;intros;refine gR2 5 6 c181r1.eq_1 @h0 ?_;intros;refine gC ?_;intros;refine gN ?_;intros;refine gR2 8 15 c181r2.eq_1 @w1 ?_;intros;refine gR 15 16 c181r3.eq_1 ?_;intros;refine dA (dW none 5 1) ?_
 refine ez (fun e h=>∃ A c m zc Lh,e 0=.slice A 0 c∧h=⟨G,Lh,[]⟩∧[Kx.Item.row (.slice A m c) 5 1 m zc].Sublist Lh) ?_ ?_
 ·intros;refine gC ?_;refine gb (fun h1=>?_) (fun h1=>?_)
  ·have h1:=Kn h1;intros;refine gR 17 26 c181r4.eq_1 ?_;refine⟨by omega,?_⟩;refine⟨n,⟨rfl,rfl⟩,⟨by omega,by omega,by unfold maxLen;omega⟩,?_⟩;intro g c zs hg;refine sI ?_;refine⟨by omega,?_⟩;refine sI ?_;intros;refine dy ?_;exact ej ⟨_,c,n,zs,_,rfl,rfl,.cons_cons _ Km⟩
  ·intros;refine dy ?_;exact ej ⟨none,0,0,[],_,eE,rfl,List.Sublist.refl _⟩
 rintro e h ⟨A,c,m,zc,Lh,e0,rfl,hsub⟩;refine dC [0] ?_;refine sJ @e0 ?_;intros;intros;try refine dx ?_
 refine dA (dE hsub) ?_;refine dA (na (L1:=[]) (L2:=[]) (m:=0) (Nat.zero_le _)) ?_;intros;refine gR 26 27 c181r5.eq_1 ?_;intros;refine dy ?_;refine dG (dL _ rfl Kl (dz dw) ?_);refine⟨[],.nil,?_⟩;simp;rfl
theorem sO(s:Sg)(n:Nat)(cs:J6)(G:J5)(hs:SE G s cs)(hb:s.bytes.length≤1000000)(hn:n≤s.bytes.length):
  FnO Tryz.prog 172 #[.agg cs.toArray,.int .i64 (n:Int)] G [] (fun _ L' r=>vT ⟨s.base,s.bytes.take n⟩ L' r):=by
 obtain⟨A,c,rfl,hl,hi⟩:=hs;refine F172.fnO (by simp) dw (dI ?_);have hpre:=SlV.pre n hl hn;obtain⟨A0,c0,he,h1,h2,h3⟩:=hl;cases he;unfold c172 ip;intros;refine gR 0 0 c172r0.eq_1 ?_;intros;refine dy ?_;refine D5 _ Kl (by decide) ?_;refine sJ c172r1.eq_1 ?_;refine⟨by omega,?_⟩;refine(rc (px _ _ G hpre (by simp;omega)) _ _).mono ?_;rintro r h' ⟨G1,L',rfl,hg1,A1,c1,ys,rfl,-,hys,rfl⟩
 refine⟨dO hg1 (.cons _ Kl),?_⟩;refine sI ?_;refine sJ c172r2.eq_1 ?_;intros;refine dy ?_;refine dG (dL _ rfl (.cons_cons _ Km) (dz dw) ?_);exact⟨_,ys,rfl,rfl,hys⟩
def EBs(G:J5)(l:Kf)(cs:J6):Prop:=∃ v,cs=[v]∧SB G v l
theorem qS{ll:List (Kf)}{k:Nat}{l:Kf}(h:ll[k]?=some l):(ll.take (k+1)).flatten=(ll.take k).flatten++l:=by
 rw[List.take_add_one,h];simp
theorem wD(ll:List (Kf))(k:Nat):(ll.take k).flatten.length≤ll.flatten.length:=by
 conv=>rhs;rw[← List.take_append_drop k ll,List.flatten_append,length_append]
 omega
theorem x9(ll:List (Kf))(v:Value)(G:J5)(hl:SlV G (EBs G) 1 v ll)(hb:ll.flatten.length≤1000000):FnO Tryz.prog 157 #[v] G [] (fun _ L' r=>sn ll.flatten L' r):=by
 obtain⟨A,c,rfl,hc,hm,hA⟩:=hl;refine F157.fnO (by simp) dw (dI ?_);unfold c157;intros;refine gR 0 0 c157r0.eq_1 ?_;intros;refine gR 0 0 c157r1.eq_1 ?_;intros;refine gR 0 0 c157r2.eq_1 ?_;intros;intros;try refine dx ?_
 refine ez (fun e h=>e 3=.int .i64 ((ll.flatten.length:Nat):Int)∧e 0=.slice A ll.length c∧h=⟨G,[],[]⟩) ?_ ?_
 ·intros;refine dy ?_;refine dV (fun e h=>∃ k:Nat,k≤ll.length∧e 11=.int .i64 k∧e 10=.int .i64 ll.length∧e 9=.slice A ll.length c∧e 0=.slice A ll.length c∧e 3=.int .i64 (((ll.take k).flatten.length:Nat):Int)∧h=⟨G,[],[]⟩) (fun e h=>ll.length - iv (e 11)) ?_ ?_
  ·exact⟨0,Nat.zero_le _,eE,eE,eE,eE,rfl,rfl⟩
  rintro e h ⟨k,hk,e11,e10,e9,e0,e3,rfl⟩;refine dC [0,3,9,10,11] ?_;refine sJ5 @e0 @e3 @e9 @e10 @e11 ?_;intros;refine gR 0 0 c157r3.eq_1 ?_;intros;refine gC ?_;refine gb (fun ht=>?_) (fun ht=>?_)
  ·have ht:k < ll.length:=by have:=Kn ht;omega
   have hw:=fi k c (by omega) hm;obtain⟨x,hx⟩:∃ x,ll[k]?=some x:=⟨ll[k],getElem?_eq_getElem (by omega)⟩;have h1:=qS hx;have h2:=wD ll (k+1);have h3:(ll.take (k+1)).flatten.length=(ll.take k).flatten.length+x.length:=by rw[h1,length_append]
   generalize hn1:(ll.take (k+1)).flatten.length=n1 at *;generalize (ll.take k).flatten.length=n0 at *;have hw2:IntKind.i64.wrap ((n0:Int)+(x.length:Int))=(n1:Int):=by rw[dX] <;> omega
   have hneg:decide ((n1:Int) < 0)=false:=decide_eq_false (by omega);intros;refine gN ?_;intros;refine gR 13 15 c157r4.eq_1 ?_;refine hA.x_l1 hx rfl rfl ?_;rintro a1 ha1 u ⟨u',hu,B,d,rfl,-⟩;cases hu;refine sI ?_;intros;refine gR2 15 19 c157r5.eq_1 @hw2 ?_;intros;refine gR2 19 20 c157r6.eq_1 @hneg ?_;intros;refine gC ?_;intros;refine gN ?_;intros;refine gR2 22 23 c157r7.eq_1 @hw ?_
   intros;refine dy ?_;refine ej ⟨⟨k+1,by omega,eE,eE,eE,eE,(eJ @hn1),rfl⟩,?_⟩;refine sI ?_;omega
  ·have ht:k=ll.length:=by have:=Ko ht;omega
   subst ht;have htk:ll.take ll.length=ll:=take_length;refine dS ?_;refine sI ?_;intros;refine gN ?_;exact ej ⟨(eJ @htk),eE,rfl⟩
 rintro e h ⟨e3,e0,rfl⟩;refine dC [0,3] ?_;refine sJ2 @e0 @e3 ?_;intros;intros;refine gR 23 25 c157r8.eq_1 ?_;refine(rc (CD ll.flatten.length G hb) _ []).mono ?_;rintro r h' ⟨G1,L',rfl,hg1,A1,c1,ys,rfl,-,hys,rfl⟩;refine sI ?_;intros;refine gR 0 0 c157r9.eq_1 ?_;intros;have hA1:=hA.le hg1 (E':=EBs G1) fun _ _ ⟨u,h1,h2⟩=>⟨u,h1,SB.le h2 hg1⟩
 refine ez (fun e h=>∃ u zc,Cells UE 1 ll.flatten zc∧e 6=u∧h=⟨G1,[.row u 5 1 ll.flatten.length zc],[]⟩) ?_ ?_
 ·intros;refine dy ?_;refine dV (fun e h=>∃ (k:Nat) (u:Value) (zc:J6),(k≤ll.length∧Cells UE 1 (ll.take k).flatten zc)∧e 27=.int .i64 k∧e 26=.int .i64 ll.length∧e 25=.slice A ll.length c∧e 6=u∧h=⟨G1,[.row u 5 1 (ll.take k).flatten.length zc],[]⟩) (fun e h=>ll.length - iv (e 27)) ?_ ?_
  ·exact⟨0,_,ys,⟨Nat.zero_le _,hys⟩,eE,eE,eE,eE,rfl⟩
  rintro e h ⟨k,u,zc,⟨hk,hzc⟩,e27,e26,e25,e6,rfl⟩;refine dC [6,25,26,27] ?_;refine sJ4 @e6 @e25 @e26 @e27 ?_;intros;refine gR 0 0 c157r10.eq_1 ?_;intros;refine gC ?_;refine gb (fun ht=>?_) (fun ht=>?_)
  ·have ht:k < ll.length:=by have:=Kn ht;omega
   have hw:=fi k c (by omega) hm;obtain⟨x,hx⟩:∃ x,ll[k]?=some x:=⟨ll[k],getElem?_eq_getElem (by omega)⟩;have h1:=qS hx;have h2:=wD ll (k+1);have h3:(ll.take (k+1)).flatten.length=(ll.take k).flatten.length+x.length:=by rw[h1,length_append]
   intros;refine gN ?_;intros;refine gR 29 31 c157r11.eq_1 ?_;refine hA1.x_l1 hx rfl rfl ?_;rintro a1 ha1 u1 ⟨u',hu,hsb⟩;cases hu;refine sI ?_;intros;refine gR 31 34 c157r12.eq_1 ?_;refine my (L1:=[]) (.inl rfl) hsb rfl UE1 (by unfold maxLen;omega) fun ys1 A2 c2 hc2=>?_
   have hh:=hzc.app hc2;rw[← h1]at hh;rw[← h3];refine sI ?_;intros;refine gN ?_;intros;refine gR2 34 35 c157r13.eq_1 @hw ?_;intros;refine dy ?_;refine ej ⟨⟨k+1,_,_,⟨by omega,hh⟩,eE,eE,eE,eE,rfl⟩,?_⟩;refine sI ?_;omega
  ·have ht:k=ll.length:=by have:=Ko ht;omega
   subst ht;rw[take_length]at hzc ⊢;refine dS ?_;refine sI ?_;intros;refine gN ?_;exact ej ⟨u,zc,hzc,eE,rfl⟩
 rintro e h ⟨u,zc,hzc,e6,rfl⟩;refine dC [6] ?_;refine sJ @e6 ?_;intros;intros;refine gR 35 36 c157r14.eq_1 ?_;intros;refine dy ?_;refine dG (dL _ rfl Kl (dz dw) ?_);exact⟨zc,hzc,rfl⟩
theorem F121:Fun Tryz.prog 121 69 v121 c121 o121:=Fun.mkA Tryz.func121 Tryz.ntmps121
def jF(s:Sg)(x:Batch)(limit:Int):Sg × Int :=
 if f0 s=s.bytes.length∧inO s.base=true∧nS limit=true then
  if fx x=0 then
   if x.base < gY s then(jQ,71)
   else if limit < ((s.bytes.length+(dK x).length:Nat):Int)then(jQ,70)
   else(⟨s.base,s.bytes++dK x⟩,0)
  else(jQ,fx x)
 else(jQ,1)
theorem F1{s:Sg}{x:Batch}{limit:Int}(h:¬ (f0 s=s.bytes.length∧inO s.base=true∧nS limit=true)):jF s x limit=(jQ,1):=if_neg h
theorem EY{s:Sg}{x:Batch}{limit:Int}(h:f0 s=s.bytes.length∧inO s.base=true∧nS limit=true)(h1:¬ fx x=0):jF s x limit=(jQ,fx x):=by rw[jF,if_pos h,if_neg h1]
theorem Fz{s:Sg}{x:Batch}{limit:Int}(h:f0 s=s.bytes.length∧inO s.base=true∧nS limit=true)(h1:fx x=0)(h2:x.base < gY s):jF s x limit=(jQ,71):=by rw[jF,if_pos h,if_pos h1,if_pos h2]
theorem Bh{s:Sg}{x:Batch}{limit:Int}(h:f0 s=s.bytes.length∧inO s.base=true∧nS limit=true)(h1:fx x=0)(h2:¬ x.base < gY s)(h3:limit < ((s.bytes.length+(dK x).length:Nat):Int)):jF s x limit=(jQ,70):=by rw[jF,if_pos h,if_pos h1,if_neg h2,if_pos h3]
theorem wB{s:Sg}{x:Batch}{limit:Int}(h:f0 s=s.bytes.length∧inO s.base=true∧nS limit=true)(h1:fx x=0)(h2:¬ x.base < gY s)(h3:¬ limit < ((s.bytes.length+(dK x).length:Nat):Int)):jF s x limit=(⟨s.base,s.bytes++dK x⟩,0):=by rw[jF,if_pos h,if_pos h1,if_neg h2,if_neg h3]
theorem mJ(s:Sg):f0 s≤s.bytes.length:=by
 obtain⟨r,h⟩:=eG s;exact h.len.2
theorem qD(s:Sg)(x:Batch)(limit:Int)(cs ds:J6)(G:J5)(hs:SE G s cs)(hb:s.bytes.length≤100000)(hx:BE G x ds)(hi:I64 limit):
  FnO Tryz.prog 121 #[.agg cs.toArray,.agg ds.toArray,.int .i64 limit] G [] (fun _ L' r=>uK (jF s x limit) L' r):=by
 have hscan:=pt s cs G hs (by omega);have hput:=oH x ds G hx;have hs0:=hs;have hx0:=hx;obtain⟨A,c,rfl,hl,hib⟩:=hs;obtain⟨B,d,rfl,-⟩:=hx;have hgl:=mJ s;refine F121.fnO (by simp) dw (dI ?_);unfold c121;unfold ip at hscan hs0 ⊢;unfold eP at hput hx0 ⊢;intros;refine gR 0 0 c121r0.eq_1 ?_;intros;refine gR 12 17 c121r1.eq_1 ?_;refine(hscan _ _).mono ?_;rintro r h' ⟨G1,L',rfl,hg1,u,zc,rfl,-,rfl⟩
 refine sI ?_;intros;refine dA (dE (.cons _ Kl)) ?_;intros;try refine dx ?_
 have hbad:∀ (fr:Kc) (e:Env) (X:J8) (Y:J6),¬ (f0 s=s.bytes.length∧inO s.base=true∧nS limit=true)→go none Tryz.prog 69 v121.1 v121.2 (gl o121 fun v h=>uK (jF s x limit) h.L v) (Td.s ((SC.reg false c121r3).seq .ret) :: fr) e ⟨G1,.reg 6 [.int .i64 0,.slice none 0 0] :: X,[]⟩:=fun fr e X Y hn=>by
  intros;refine gR 33 34 c121r3.eq_1 ?_;intros;refine dy ?_;refine dA (dW none 5 1) ?_;refine dG (dL _ rfl (.cons_cons _ Km) (dz dw) ?_);rw[F1 hn];exact⟨_,[],rfl,rfl,.nil⟩
 intros;refine gR 17 32 c121r2.eq_1 ?_;refine gd (fun k1=>?_) (fun k1=>?_)
 ·refine sI ?_;intros;refine gC ?_;exact hbad _ _ _ [] fun h=>Kn k1 (by rw[h.1])
 have k1:f0 s=s.bytes.length:=by have:=Ko k1;omega
 refine sI ?_;refine fK (sW _ _ _ _) ?_;refine gd (fun k2=>?_) (fun k2=>?_)
 ·refine sI ?_;intros;refine gC ?_;exact hbad _ _ _ [] fun h=>by rw[h.2.1]at k2;cases k2
 have k2:inO s.base=true:=by simpa using k2
 refine sI ?_;refine fK (ou _ _ _ _) ?_;intros;refine gC ?_;refine gb (fun k3=>?_) (fun k3=>?_)
 ·exact hbad _ _ _ [] fun h=>by rw[h.2.2]at k3;cases k3
 have k3:nS limit=true:=by simpa using k3
 clear hbad;have hok:f0 s=s.bytes.length∧inO s.base=true∧nS limit=true:=⟨k1,k2,k3⟩;intros;refine gN ?_;have hput:=oH x _ G1 (BE.le hg1 hx0);intros;refine gR 34 39 c121r4.eq_1 ?_;refine(hput _ _).mono ?_;rintro r h' ⟨G2,L',rfl,hg2,w,rfl,ys,hys,rfl⟩;refine sI ?_;intros;try refine dx ?_
 refine ei (dT [] _ (by decide) hys) ?_;rintro h' ⟨G3,rfl,hg3,hv3⟩;have hg03:=hg1.trans (hg2.trans hg3);by_cases he:fx x=0;rotate_left
 ·rw[wz he]at hv3 ⊢;intros;refine gR 40 42 c121r5.eq_1 ?_;intros;refine gC ?_;refine gb (fun k4=>?_) (fun k4=>absurd (Ko k4) (by simpa using he));intros;refine gR 42 44 c121r6.eq_1 ?_;intros;refine dy ?_;refine dA (dW none 5 1) ?_;refine dG (dL _ rfl (.cons_cons _ Km) (dz dw) ?_);rw[EY hok he];exact⟨_,[],rfl,rfl,.nil⟩
 rw[vp he]at hv3 ⊢;have hv3:SB G3 w (dK x):=hv3;have hbl:=(ja he).2;have hz:decide ((0:Int)≠0)=false:=by decide
 intros;refine gR2 40 42 c121r5.eq_1 @hz ?_;intros;refine gC ?_;intros;refine gN ?_;intros;refine dy ?_;refine nP _ Kl (by decide) ?_;refine sJ c121r7.eq_1 ?_;refine fK (vY s _ G3 (SE.le hg03 hs0) (by omega) _ _) ?_;intros;refine gC ?_;refine gbD (fun k5=>?_) (fun k5=>?_)
 ·intros;refine gR 50 51 c121r8.eq_1 ?_;intros;refine dy ?_;refine dA (dW none 5 1) ?_;refine dG (dL _ rfl (.cons_cons _ Km) (dz dw) ?_);rw[Fz hok he k5];exact⟨_,[],rfl,rfl,.nil⟩
 have hw:IntKind.i64.wrap ((s.bytes.length:Int)+((dK x).length:Int))=((s.bytes.length+(dK x).length:Nat):Int):=by rw[dX] <;> omega
 have hsb3:=hv3;obtain⟨A3,c3,rfl,-⟩:=hv3;intros;refine gR2 53 60 c121r9.eq_1 @hw ?_;intros;refine gC ?_;refine gbD (fun k6=>?_) (fun k6=>?_)
 ·intros;refine gR 60 61 c121r10.eq_1 ?_;intros;refine dy ?_;refine dA (dW none 5 1) ?_;refine dG (dL _ rfl (.cons_cons _ Km) (dz dw) ?_);rw[Bh hok he k5 k6];exact⟨_,[],rfl,rfl,.nil⟩
 have h0:=wB hok he k5 k6;have hll:Cells (EBs G3) 1 [s.bytes,dK x] [.slice A s.bytes.length c,.slice A3 (dK x).length c3]:=.cons (cs:=[_]) ⟨_,rfl,SB.le hl hg03⟩ rfl (.one ⟨_,rfl,hsb3⟩ rfl);intros;refine gN ?_;intros;refine dy ?_;refine D5 _ Kl (by decide) ?_;refine sJ c121r11.eq_1 ?_;intro bk hbk;refine⟨dO Kp (.cons _ Kl),?_⟩;refine fD F157.enters (dT [] _ (by decide) hll) ?_
 rintro h' ⟨G5,rfl,hg5,hv5⟩;refine(rc (x9 [s.bytes,dK x] _ G5 (hv5.le (.refl _) fun _ _ ⟨v,h1,h2⟩=>⟨v,h1,SB.le h2 hg5⟩) (by simp;omega)) _ _).mono ?_;rintro r h' ⟨G6,L',rfl,hg6,A6,c6,zc6,rfl,-,hzc6,rfl⟩;have hfl:[s.bytes,dK x].flatten=s.bytes++dK x:=by simp
 rw[hfl]at hzc6 ⊢;refine⟨dO (hg5.trans hg6) (.cons _ Kl),?_⟩;refine sI ?_;refine sJ c121r12.eq_1 ?_;intros;refine dy ?_;refine dG (dL _ rfl (.cons_cons _ Km) (dz dw) ?_);rw[h0];exact⟨_,zc6,rfl,rfl,hzc6⟩
theorem F123:Fun Tryz.prog 123 44 v123 c123 o123:=Fun.mkA Tryz.func123 Tryz.ntmps123
theorem F143:Fun Tryz.prog 143 19 v143 c143 o143:=Fun.mkA Tryz.func143 Tryz.ntmps143
theorem F190:Fun Tryz.prog 190 20 v190 c190 o190:=Fun.mkA Tryz.func190 Tryz.ntmps190
def Gq(p:Sg × Int)(G:J5)(r:Value):Prop:=∃ A c,r=.tuple #[.agg #[.int .i64 p.1.base,.slice A p.1.bytes.length c],.int .i64 p.2]∧SB G (.slice A p.1.bytes.length c) p.1.bytes
theorem zI{P:Program}{f:FuncId}{args:Array Value}{G:J5}{p:Sg × Int}(hf:FnO P f args G [] (fun _ L' r=>uK p L' r)):
  FnO P f args G [] (fun _ L' r=>∃ A c zc,r=.tuple #[.agg #[.int .i64 p.1.base,.slice A p.1.bytes.length c],.int .i64 p.2]∧(p.1.bytes.length≤c∧c≤maxLen)∧L'=[.row (.slice A p.1.bytes.length c) 5 1 p.1.bytes.length zc]∧Cells UE 1 p.1.bytes zc):=fun L D =>
 (hf L D).gx fun v h' ⟨G',L',he,hg,u,zc,h1,h2,h3⟩=>by
  subst he h2;refine(gU (.head _)).mono fun h' ⟨e1,A,c,e2,e3,e4⟩=>?_
  subst e2;exact⟨G',_,e1,hg,A,c,zc,h1,⟨e3,e4⟩,rfl,h3⟩
theorem mP{P:Program}{f:FuncId}{args:Array Value}{G:J5}{p:Sg × Int}(hf:FnO P f args G [] (fun _ L' r=>uK p L' r)):FnD P f args G (Gq p) :=
 FnO.fnD (L1:=[]) (zI hf) fun G' L' v ⟨A,c,zc,h1,_,h2,h3⟩ _ L D=>by
  subst h2;exact(kF (by decide) h3).mono fun h' ⟨G2,e1,e2,e3⟩=>⟨G2,e1,e2,A,c,h1,e3⟩
theorem oT{P:Program}{f:FuncId}{args:Array Value}{G:J5}{s:Sg}(hf:FnO P f args G [] (fun _ L' r=>vT s L' r)):
  FnO P f args G [] (fun _ L' r=>∃ A c zc,r=.agg #[.int .i64 s.base,.slice A s.bytes.length c]∧(s.bytes.length≤c∧c≤maxLen)∧L'=[.row (.slice A s.bytes.length c) 5 1 s.bytes.length zc]∧Cells UE 1 s.bytes zc):=fun L D =>
 (hf L D).gx fun v h' ⟨G',L',he,hg,u,zc,h1,h2,h3⟩=>by
  subst he h2;refine(gU (.head _)).mono fun h' ⟨e1,A,c,e2,e3,e4⟩=>?_
  subst e2;exact⟨G',_,e1,hg,A,c,zc,h1,⟨e3,e4⟩,rfl,h3⟩
def ofL(limit:Int):Sg→Kg→Sg × Int
 | s,[]=>(s,0)
 | s,b :: bs=>if (jF s b limit).2=0 then ofL limit (jF s b limit).1 bs else(jQ,(jF s b limit).2)
def ofS(base:Int)(l:Kg)(limit:Int):Sg × Int:=if (uT base).2=0∧nS limit=true then ofL limit (uT base).1 l else(jQ,1)
theorem xQ{s:Sg}{x:Batch}{limit:Int}(h:(jF s x limit).2=0):(f0 s=s.bytes.length∧inO s.base=true∧nS limit=true)∧fx x=0∧gY s≤x.base∧((s.bytes.length+(dK x).length:Nat):Int)≤limit∧jF s x limit=(⟨s.base,s.bytes++dK x⟩,0):=by
 unfold jF at h ⊢;split at h <;> rename_i h1
 ·split at h <;> rename_i h2
  ·split at h <;> rename_i h3
   ·cases h
   ·split at h <;> rename_i h4
    ·cases h
    ·exact⟨h1,h2,by omega,by omega,by rw[if_pos h1,if_pos h2,if_neg h3,if_neg h4]⟩
  ·exact absurd h h2
 ·cases h
theorem vz{s:Sg}{x:Batch}{limit:Int}(h:¬ (jF s x limit).2=0):(jF s x limit).1=jQ:=by
 unfold jF at h ⊢;split at h <;> rename_i h1
 ·split at h <;> rename_i h2
  ·split at h <;> rename_i h3
   ·rw[if_pos h1,if_pos h2,if_pos h3]
   ·split at h <;> rename_i h4
    ·rw[if_pos h1,if_pos h2,if_neg h3,if_pos h4]
    ·exact absurd rfl h
  ·rw[if_pos h1,if_neg h2]
 ·rw[if_neg h1]
theorem su{n:Int}:nS n=true↔1≤n∧n≤4096:=by simp[nS]
theorem pQ{p:Int}{G:J5}:Gq (jQ,p) G (.tuple #[.agg #[.int .i64 0,.slice none 0 0],.int .i64 p]):=⟨none,0,rfl,SB.nil⟩
theorem GR(base limit:Int)(l:Kg)(v:Value)(G:J5)(hl:SlV G (BE G) 10 v l)(hbi:I64 base)(hli:I64 limit):FnD Tryz.prog 123 #[.int .i64 base,v,.int .i64 limit] G (Gq (ofS base l limit)):=by
 obtain⟨A,c,rfl,hc,hm,hA⟩:=hl;refine F123.fnD (by simp) (dI ?_);unfold c123;intros;refine gR 0 0 c123r0.eq_1 ?_;intros;refine gR 12 17 c123r1.eq_1 ?_;refine(mP (FX base G) _ _).mono ?_;rintro r h' ⟨G1,rfl,hg1,A1,c1,rfl,hs1⟩;refine sI ?_
 have hbad:∀ (fr:Kc) (e:Env) (X:J8),¬ ((uT base).2=0∧nS limit=true)→go none Tryz.prog 44 v123.1 v123.2 (gl o123 fun v h=>Gq (ofS base l limit) h.G v) (Td.s ((SC.reg false c123r3).seq .ret) :: fr) e ⟨G1,[.reg 8 [.int .i64 (uT base).1.base,.slice A1 (uT base).1.bytes.length c1],.reg 6 [.int .i64 0,.slice none 0 0]],[]⟩:=fun fr e X hn=>by
  intros;refine gR 24 25 c123r3.eq_1 ?_;intros;refine rW ?_;rw[ofS,if_neg hn];exact pQ
 intros;refine gR 17 23 c123r2.eq_1 ?_;refine gd (fun k1=>?_) (fun k1=>?_)
 ·refine sI ?_;intros;refine gC ?_;exact hbad _ _ [] fun h=>Kn k1 h.1
 have k1:(uT base).2=0:=by simpa using k1
 refine sI ?_;refine fK (ou _ _ _ _) ?_;intros;refine gC ?_;refine gb (fun k2=>?_) (fun k2=>?_)
 ·exact hbad _ _ [] fun h=>by rw[h.2]at k2;cases k2
 have k2:nS limit=true:=by simpa using k2
 clear hbad;have hlim:=su.1 k2;have hnew:uT base=(⟨base,[]⟩,0):=by
  unfold uT at k1 ⊢;split at k1
  ·rename_i h;rw[if_pos h]
  ·cases k1
 have hof:ofS base l limit=ofL limit ⟨base,[]⟩ l:=by rw[ofS,if_pos ⟨k1,k2⟩,hnew]
 rw[hnew]at hs1 ⊢;rw[hof];clear hof hnew k1;dsimp only at hs1 ⊢;intros;refine gN ?_;intros;refine gR 0 0 c123r4.eq_1 ?_;intros;refine ez (fun e h=>∃ (s:Sg) (G':J5) (A':Ka) (c':Nat),(Gle G1 G'∧SB G' (.slice A' s.bytes.length c') s.bytes∧ofL limit ⟨base,[]⟩ l=(s,0))∧h=⟨G',[.reg 8 [.int .i64 s.base,.slice A' s.bytes.length c'],.reg 6 [.int .i64 0,.slice none 0 0]],[]⟩) ?_ ?_
 ·intros;refine dy ?_
  refine dV (fun e h=>∃ (k:Nat) (s:Sg) (G':J5) (A':Ka) (c':Nat),(k≤l.length∧Gle G1 G'∧SB G' (.slice A' s.bytes.length c') s.bytes∧s.base=base∧s.bytes.length≤4096∧ofL limit ⟨base,[]⟩ l=ofL limit s (l.drop k))∧e 27=.int .i64 k∧e 26=.int .i64 l.length∧e 25=.slice A l.length c∧e 2=.int .i64 limit∧h=⟨G',[.reg 8 [.int .i64 s.base,.slice A' s.bytes.length c'],.reg 6 [.int .i64 0,.slice none 0 0]],[]⟩) (fun e h=>l.length - iv (e 27)) ?_ ?_
  ·exact⟨0,⟨base,[]⟩,G1,A1,c1,⟨Nat.zero_le _,.refl _,hs1,rfl,by simp,rfl⟩,eE,eE,eE,eE,rfl⟩
  rintro e h ⟨k,s,G2,A2,c2,⟨hk,hg2,hs2,hsb,hsl,hof⟩,e27,e26,e25,e2,rfl⟩;refine dC [2,25,26,27] ?_;refine sJ4 @e2 @e25 @e26 @e27 ?_;intros;refine gR 0 0 c123r5.eq_1 ?_;intros;refine gC ?_;refine gb (fun ht=>?_) (fun ht=>?_)
  ·have ht:k < l.length:=by have:=Kn ht;omega
   have hw:=fi k c (by omega) hm;have hg02:=hg1.trans hg2;obtain⟨x,hx⟩:∃ x,l[k]?=some x:=⟨l[k],getElem?_eq_getElem (by omega)⟩;have hA2:=hA.le hg02 (E':=BE G) Kp;have hof2:ofL limit s (l.drop k)=if (jF s x limit).2=0 then ofL limit (jF s x limit).1 (l.drop (k+1))else(jQ,(jF s x limit).2):=by
    obtain⟨h1,h2⟩:=List.getElem?_eq_some_iff.1 hx;rw[List.drop_eq_getElem_cons h1,h2,ofL]
   rw[hof2]at hof;intros;refine gN ?_;intros;refine gR 29 31 c123r6.eq_1 ?_;refine hA2.x_ld hx rfl rfl ?_;rintro a1 ha1 cs hbe;have hbe:=BE.le hg02 hbe;have happ:=qD s x limit _ cs G2 ⟨A2,c2,rfl,hs2,by rw[hsb];exact hbi⟩ (by omega) hbe hli;obtain⟨B,d,rfl,-⟩:=hbe;unfold eP ip at happ;unfold eP;refine sI ?_;intros;refine gR 31 38 c123r7.eq_1 ?_;refine(mP happ _ _).mono ?_
   rintro r h' ⟨G3,rfl,hg3,A3,c3,rfl,hs3⟩;have hok:=@xQ s x limit;have hno:=@vz s x limit;generalize jF s x limit=q at hok hno hs3 hof;obtain⟨s3,er⟩:=q;dsimp only at hok hno hs3 hof;refine sI ?_;intros;refine gR 38 39 c123r8.eq_1 ?_;intros;refine gC ?_;refine gb (fun k3=>?_) (fun k3=>?_)
   ·have k3:=Kn k3;intros;refine gR 40 42 c123r9.eq_1 ?_;intros;refine rW ?_;rw[hof,if_neg k3];exact pQ
   ·have k3:er=0:=by simpa using k3
    subst k3;obtain⟨-,-,-,h4,h5⟩:=hok rfl;have h5:s3=⟨s.base,s.bytes++dK x⟩:=congrArg Prod.fst h5;rw[if_pos rfl]at hof;have hl3:s3.bytes.length≤4096:=by rw[h5];simp only[length_append];omega
    have hb3:s3.base=base:=by rw[h5];exact hsb
    intros;refine gN ?_;refine dA (dE (L':=[.reg 8 [.int .i64 s3.base,.slice A3 s3.bytes.length c3],.reg 6 [.int .i64 0,.slice none 0 0]]) (.cons _ Kl)) ?_;intros;refine gR2 42 43 c123r10.eq_1 @hw ?_;intros;refine dy ?_;refine ej ⟨⟨k+1,s3,G3,A3,c3,⟨by omega,hg2.trans hg3,hs3,hb3,hl3,hof⟩,eE,eE,eE,eE,rfl⟩,?_⟩;refine sI ?_;omega
  ·have ht:k=l.length:=by have:=Ko ht;omega
   subst ht;rw[List.drop_length,ofL]at hof;refine dS ?_;refine sI ?_;intros;refine gN ?_;exact ej ⟨s,G2,A2,c2,⟨hg2,hs2,hof⟩,rfl⟩
 rintro e h ⟨s,G2,A2,c2,⟨hg2,hs2,hof⟩,rfl⟩;intros;intros;refine gR 43 44 c123r11.eq_1 ?_;intros;refine rW ?_;rw[hof];exact⟨A2,c2,rfl,hs2⟩
def lK(s:Sg):Sg × Int:=(⟨s.base,s.bytes.take (f0 s)⟩,(s.bytes.length:Int) - (f0 s:Int))
theorem Ge(s:Sg)(cs:J6)(G:J5)(hs:SE G s cs)(hb:s.bytes.length≤1000000):FnO Tryz.prog 143 #[.agg cs.toArray] G [] (fun _ L' r=>uK (lK s) L' r):=by
 have hscan:=pt s cs G hs hb;have hs0:=hs;obtain⟨A,c,rfl,hl,hib⟩:=hs;have hgl:=mJ s;refine F143.fnO (by simp) dw (dI ?_);unfold c143;unfold ip at hscan hs0 ⊢;have hw:IntKind.i64.wrap ((s.bytes.length:Int) - (f0 s:Int))=(s.bytes.length:Int) - (f0 s:Int):=by rw[dX] <;> omega
 intros;refine gR 0 0 c143r0.eq_1 ?_;intros;refine gR 6 11 c143r1.eq_1 ?_;refine(hscan _ _).mono ?_;rintro r h' ⟨G1,L',rfl,hg1,u,zc,rfl,-,rfl⟩;refine sI ?_;intros;refine dA (dE (.cons _ Kl)) ?_;intros;refine dy ?_;refine qY _ (.cons _ Kl) (by decide) ?_;refine sJ2 c143r2.eq_1 @hw ?_;refine(oT (sO s (f0 s) _ G1 (SE.le hg1 hs0) hb hgl) _ _).mono ?_
 rintro r h' ⟨G2,L',rfl,hg2,A2,c2,zc2,rfl,-,rfl,hzc2⟩;refine⟨dO hg2 (.cons _ (.cons _ Kl)),?_⟩;refine sI ?_;refine⟨dO hg2 (.cons _ (.cons _ Kl)),?_⟩;refine sI ?_;intros;refine dy ?_;refine dG (dL _ rfl (.cons_cons _ Km) (dz dw) ?_);exact⟨_,zc2,rfl,rfl,hzc2⟩
def yq(off:Int)(b:Batch):Bool:=decide (b.last < off)
def pE(s:Sg)(off:Int):Sg:=⟨s.base,s.bytes.take (ft ((ef s).takeWhile (yq off))).length⟩
theorem E2{α:Type}{p:α→Bool}:∀ {l:List α} {k:Nat} {x:α},(∀ y∈l.take k,p y=true)→l[k]?=some x→p x=false→l.takeWhile p=l.take k
 | [],_,_,_,h,_=>by simp at h
 | y :: l,0,x,_,h,hp=>by
  simp at h;subst h;rw[List.takeWhile_cons,if_neg (by rw[hp];simp)];rfl
 | y :: l,k+1,x,ha,h,hp=>by
  rw[List.takeWhile_cons,if_pos (ha y (by simp)),List.take_succ_cons,E2 (k:=k) (fun z hz=>ha z (by rw[List.take_succ_cons];exact .tail _ hz)) (by simpa using h) hp]
theorem AT{α:Type}{p:α→Bool}:∀ {l:List α},(∀ y∈l,p y=true)→l.takeWhile p=l
 | [],_=>rfl
 | y :: l,h=>by rw[List.takeWhile_cons,if_pos (h y (.head _)),AT fun z hz=>h z (.tail _ hz)]
theorem FG(s:Sg)(off:Int)(cs:J6)(G:J5)(hs:SE G s cs)(hb:s.bytes.length≤1000000)(ho:I64 off):FnO Tryz.prog 190 #[.agg cs.toArray,.int .i64 off] G [] (fun _ L' r=>vT (pE s off) L' r):=by
 have hs0:=hs;obtain⟨A,c,rfl,hl,hi⟩:=hs;refine F190.fnO (by simp) dw (dI ?_);unfold c190;unfold ip at hs0 ⊢;intros;refine gR 0 0 c190r0.eq_1 ?_;intro b2 hb2 b3 hb3 b4 hb4;intros;refine dy ?_;refine ei (eg [_,_] _) ?_;rintro h' ⟨G1,rfl,hg1,f2⟩;refine ei (eg [_] _) ?_;rintro h' ⟨G2,rfl,hg2,f3⟩;have f2:=fun j u hu=>dN hg2 (f2 j u hu)
 have e3:=f3 0 _ rfl;rw[eA]at e3;have hg02:=hg1.trans hg2;intros;refine gR 0 0 c190r1.eq_1 ?_;intro b5 hb5;refine dM [] [_] rfl (by simp) ⟨rfl,rfl⟩ ?_;refine sI ?_;intros;refine gR 8 9 c190r2.eq_1 ?_;refine⟨_,⟨_,[.int .i64 s.base,.slice A s.bytes.length c],rfl,rfl,rfl,fun j u hu=>.g (f2 j u hu)⟩,?_⟩;refine sI ?_;refine(rM s _ G2 (SE.le hg02 hs0) hb _ _).mono ?_;rintro r h' ⟨G3,rfl,hg3,b,rfl,hit⟩
 obtain⟨rr,hsc⟩:=eG s;have hcut:pE s off=⟨s.base,s.bytes.take (ft ((ef s).takeWhile (yq off))).length⟩:=rfl;generalize ef s=bs at hit hsc hcut;have hlen:=hsc.len;have hrest:∀ (fr:Kc) (e:Env) (G':J5) (D:Kh) (k:Nat),Gle G3 G'→bs.takeWhile (yq off)=bs.take k→e 2=.pointer (some ⟨b2,0,none⟩)→e 5=.pointer (some ⟨b5,0,none⟩)→e 4=.pointer (some ⟨b4,0,none⟩) →
   go none Tryz.prog 20 v190.1 v190.2 (gl o190 fun v h=>vT (pE s off) h.L v) (Td.s ((SC.reg false c190r7).seq .ret) :: fr) e ⟨G',[.blk b5 [.int .i64 (((ft (bs.take k)).length:Nat):Int)],.blk b4 [.int .i64 0,.slice none 0 0]],D⟩:=fun fr e G' D k hg htw e2 e5 e4=>by
  have hle:=iX bs k;refine dC [2,4,5] ?_;refine sJ3 @e2 @e4 @e5 ?_;intros;refine gR 17 20 c190r7.eq_1 ?_;refine⟨_,⟨_,[.int .i64 s.base,.slice A s.bytes.length c],rfl,rfl,rfl,fun j u hu=>.g (dN (hg3.trans hg) (f2 j u hu))⟩,?_⟩;refine sI ?_;refine⟨_,dH (.head _) rfl,?_⟩;refine sI ?_;refine(oT (sO s (ft (bs.take k)).length _ G' (SE.le (hg02.trans (hg3.trans hg)) hs0) hb (by omega)) _ _).mono ?_
  rintro r h' ⟨G4,L',rfl,hg4,A4,c4,zc4,rfl,-,rfl,hzc4⟩;refine sI ?_;refine dM [_,_] [] rfl (by simp) ⟨rfl,rfl⟩ ?_;refine sI ?_;intros;refine dy ?_;refine ei (EP (.cons _ Kl)) ?_;rintro h' ⟨rfl,hne⟩;refine dG (dL (out:=[.agg #[.int .i64 s.base,.slice A4 (s.bytes.take (ft (bs.take k)).length).length c4]]) _ ?_ (.cons_cons _ Km) (dz dw) ?_)
  ·simp[o190,mc,Kx.getB,u4,ldC,Env.set,hne]
   trace_state
  rw[hcut,htw];exact⟨_,zc4,rfl,rfl,hzc4⟩
 refine sI ?_;intros;refine dy ?_;refine rA (α:=Nat) (fun k G' L'=>L'=[.blk b5 [.int .i64 (((ft (bs.take k)).length:Nat):Int)],.blk b4 [.int .i64 0,.slice none 0 0]]∧∀ y∈bs.take k,yq off y=true)
  (fun ex k G' L'=>ex=.exit 0∧L'=[.blk b5 [.int .i64 (((ft (bs.take k)).length:Nat):Int)],.blk b4 [.int .i64 0,.slice none 0 0]]∧bs.takeWhile (yq off)=bs.take k) (eE) F177.enters (dF (dF dw))
  (fun i G G' L hg h=>h) hit (fun G x args h=>by obtain⟨y,_,_,_,rfl⟩:=h;rfl) ⟨rfl,by simp⟩ ?_ ?_ ?_
 ·rintro yl k i args G' L' hki hgl ⟨x,cs,hx,hbe,rfl⟩ ⟨rfl,hall⟩ _;obtain⟨rfl,hkl⟩:=pi hki;obtain⟨B,d,rfl,-⟩:=hbe;have e3':=dN (hg3.trans hgl) e3;unfold eP;refine sI ?_;intros;refine gR 0 0 c190r3.eq_1 ?_;intros;refine gR 0 0 c190r4.eq_1 ?_;intro bb;refine fU (rX ?_);intros;refine gR 13 15 c190r5.eq_1 ?_;refine⟨_,⟨_,rfl,.g e3'⟩,?_⟩;refine sI ?_;intros;refine gC ?_
  refine gbD (fun h1=>?_) (fun h1=>?_)
  ·refine dS ?_;refine sI ?_;exact Hn _ (.cons _ Kl) (dF (dF dw)) ⟨rfl,rfl,E2 hall hx (decide_eq_false (by omega))⟩
  ·have hcp:yq off x=true:=decide_eq_true (by omega);intros;refine gN ?_;intros;refine gR 16 17 c190r6.eq_1 ?_;refine dM [_] [_] rfl (by simp) ⟨rfl,rfl⟩ ?_;refine sI ?_;intros;refine dy ?_;refine fU (qf _ (.cons _ Kl) (dF (dF dw)) ⟨rfl,fun y hy=>?_⟩);rw[List.take_add_one,hx]at hy;rcases List.mem_append.1 hy with h | h
   ·exact hall y h
   ·simp at h;subst h;exact hcp
 ·rintro G' L' dd hgl ⟨rfl,hall⟩ _;rw[List.length_range]at hall ⊢;refine kl ?_;refine hrest _ _ _ _ _ hgl ?_ ?_ ?_ ?_
  ·rw[take_length]at hall ⊢;exact AT hall
  ·(refine sI ?_;try with_reducible exact True.intro)
  ·(refine sI ?_;try with_reducible exact True.intro)
  ·(refine sI ?_;try with_reducible exact True.intro)
 ·rintro ex k G' L' d _ hgl ⟨rfl,rfl,htw⟩ _;refine sI ?_;refine hrest _ _ _ _ _ hgl htw ?_ ?_ ?_
  ·(refine sI ?_;try with_reducible exact True.intro)
  ·(refine sI ?_;try with_reducible exact True.intro)
  ·(refine sI ?_;try with_reducible exact True.intro)
theorem pC{nx:Int}:¬ o5 [] nx:=fun h=>by
 obtain⟨x,s,-,e,-⟩:=o3 h;have:=gM x;have h2:=congrArg List.length e;simp at h2;omega
theorem Scans.join{nx:Int}{r r':Kf}{bs ms:Kg}(hok:∀ x∈bs,fx x=0)(ho:uY nx bs)(h:Scans (eF nx bs) r ms r'):Scans nx (ft bs++r) (bs++ms) r' :=
 ⟨by rw[lu,append_assoc,← h.eq],fun x hx=>(List.mem_append.1 hx).elim (hok x) (h.ok x),(oL _ _ _).2 ⟨ho,h.ord⟩,by rw[fY];exact h.stop⟩
theorem vx{nx:Int}{bs:Kg}(h:uY nx bs)(k:Nat):uY nx (bs.take k):=by
 rw[← List.take_append_drop k bs,oL]at h;exact h.1
theorem Scans.pre{nx:Int}{q r:Kf}{bs:Kg}(h:Scans nx q bs r)(k:Nat):Scans nx (ft (bs.take k)) (bs.take k) [] :=
 ⟨(append_nil _).symm,fun x hx=>h.ok x (List.mem_of_mem_take hx),vx h.ord k,pC⟩
theorem tC{nx:Int}{q r:Kf}{bs:Kg}(h:Scans nx q bs r)(k:Nat):q.take (ft (bs.take k)).length=ft (bs.take k):=by
 have e:q=ft (bs.take k)++(ft (bs.drop k)++r):=by
  rw[← append_assoc,← lu,List.take_append_drop];exact h.eq
 rw[e,List.take_left]
theorem qG{s:Sg}{bs:Kg}{r:Kf}(h:Scans s.base s.bytes bs r)(k:Nat):ef ⟨s.base,s.bytes.take (ft (bs.take k)).length⟩=bs.take k :=
 Scans.is (r:=[]) (s:=⟨s.base,s.bytes.take (ft (bs.take k)).length⟩) (by show Scans s.base _ _ _;rw[tC h k];exact h.pre k)
theorem ya{s:Sg}{x:Batch}(hg:f0 s=s.bytes.length)(h0:fx x=0)(ho:gY s≤x.base):Scans s.base (s.bytes++dK x) (ef s++[x]) []:=by
 obtain⟨r,h⟩:=eG s;have hr:s.bytes=ft (ef s):=by
  have e:=h.eq;have hl:=congrArg List.length e;rw[length_append]at hl;have:r=[]:=List.eq_nil_of_length_eq_zero (by unfold f0 at hg;omega);rw[this,append_nil]at e;exact e
 have:=Scans.join (ms:=[x]) (r:=dK x) (r':=[]) h.ok h.ord ⟨by simp[ft],fun y hy=>by simp at hy;subst hy;exact h0,⟨ho,trivial⟩,pC⟩;rw[← hr]at this;exact this
theorem sk{α:Type}(a b:List α)(c:Nat)(h:a.length≤c):(a++b).take c=a++b.take (c - a.length):=by
 rw[List.take_append,List.take_of_length_le h]
theorem qO:∀ (bs:Kg) {nx:Int} {q r:Kf} {c:Nat},Scans nx q bs r→c≤q.length→∃ (k:Nat) (r':Kf),k≤bs.length∧Scans nx (q.take c) (bs.take k) r'∧((ft bs).length≤c→k=bs.length)
 | [],nx,q,r,c,h,hc=>by
  have hq:q=r:=h.eq;subst hq;refine⟨0,q.take c,Nat.le_refl _,⟨rfl,fun x hx=>(by cases hx),trivial,fun hm=>h.stop ?_⟩,fun _=>rfl⟩;obtain⟨x,s,-,e,h0,hn⟩:=o3 hm;have e2:q=dK x++(s++q.drop c):=by rw[← append_assoc,← e,List.take_append_drop]
  exact(ru h0 e2).2 hn
 | x :: bs,nx,q,r,c,h,hc=>by
  have e1:q=dK x++(ft bs++r):=by rw[h.eq,fm,append_assoc]
  have h0:=h.ok x (.head _);by_cases hl:(dK x).length≤c
  ·obtain⟨k,r',hk,hs,ha⟩:=qO bs (nx:=x.last+1) (q:=ft bs++r) (r:=r) (c:=c - (dK x).length) ⟨rfl,fun z hz=>h.ok z (.tail _ hz),h.ord.2,h.stop⟩ (by rw[e1,length_append]at hc;omega);refine⟨k+1,r',by simp;omega,⟨?_,fun z hz=>?_,⟨h.ord.1,hs.ord⟩,hs.stop⟩,fun hh=>?_⟩
   ·rw[e1,sk _ _ _ hl,List.take_succ_cons,fm,append_assoc,← hs.eq]
   ·rw[List.take_succ_cons]at hz;rcases List.mem_cons.1 hz with rfl | hz
    ·exact h0
    ·exact hs.ok z hz
   ·rw[fm,length_append]at hh;rw[ha (by omega)];rfl
  ·refine⟨0,q.take c,Nat.zero_le _,⟨rfl,fun x hx=>(by cases hx),trivial,fun hm=>?_⟩,fun hh=>?_⟩
   ·have hd:(q.take c).drop 0=(dK x).take c:=by rw[List.drop_zero,e1,List.take_append_of_le_length (by omega)]
    have hg:=ul (a:=0) h0 (by omega) hd;have:=hm.1;rw[show((0:Int))=((0:Nat):Int)from rfl,hg]at this;cases this
   ·rw[fm,length_append]at hh;omega
theorem jy:∀ {nx:Int} {bs:Kg},uY nx bs→(∀ x∈bs,fx x=0)→∀ k,eF nx (bs.take k)≤eF nx bs
 | nx,[],_,_,k=>by simp[eF]
 | nx,x :: bs,ho,hok,0=>by
  have h1:=jy ho.2 (fun z hz=>hok z (.tail _ hz)) 0;have h2:x.base≤x.last:=(ja (hok x (.head _))).1.2.2.1.1;have h3:=ho.1;simp only[List.take_zero,eF]at h1 ⊢;omega
 | nx,x :: bs,ho,hok,k+1=>jy ho.2 (fun z hz=>hok z (.tail _ hz)) k
theorem F132:Fun Tryz.prog 132 17 v132 c132 o132:=Fun.mkA Tryz.func132 Tryz.ntmps132
theorem F29:Fun Tryz.prog 29 27 v29 c29 o29:=Fun.mkA Tryz.func29 Tryz.ntmps29
theorem zA(s t:Sg)(cs ds:J6)(G:J5)(hs:SE G s cs)(ht:SE G t ds):FnS Tryz.prog 132 #[.agg cs.toArray,.agg ds.toArray] G (.bool (decide (s=t))):=by
 obtain⟨A,c,rfl,hl,hi⟩:=hs;obtain⟨B,d,rfl,hm,hj⟩:=ht;have hd:decide (s=t)=(decide (s.base=t.base) && decide (s.bytes=t.bytes)):=by
  rw[← Bool.decide_and];apply decide_eq_decide.2;constructor
  ·rintro rfl;exact⟨rfl,rfl⟩
  ·rintro⟨h1,h2⟩;cases s;cases t;simp_all
 rw[hd];refine F132.fnS (by simp) (dI ?_);unfold c132 ip;intros;refine gR 0 0 c132r0.eq_1 ?_;intros;refine gR 6 17 c132r1.eq_1 ?_;refine gd (fun k1=>?_) (fun k1=>?_)
 ·refine sI ?_;refine fK (zx _ _ _ _ _ hl hm _ _) ?_;intros;refine rW ?_;rw[k1,Bool.true_and]
 ·refine sI ?_;intros;refine rW ?_;rw[k1,Bool.false_and]
theorem uv(a b:Kg)(v u:Value)(G:J5)(ha:SlV G (BE G) 10 v a)(hb:SlV G (BE G) 10 u b):FnS Tryz.prog 29 #[v,u] G (.bool (decide (a=b))):=by
 obtain⟨A,c,rfl,hc,hm,hA⟩:=ha;obtain⟨B,d,rfl,hd,hn,hB⟩:=hb;refine F29.fnS (by simp) (dI ?_);unfold c29;intros;refine gR 0 0 c29r0.eq_1 ?_;intros;refine gR 6 10 c29r1.eq_1 ?_;intros;refine gC ?_;refine gb (fun h1=>?_) (fun h1=>?_)
 ·have h1:=Kn h1;intros;refine gR 0 0 c29r2.eq_1 ?_;intros;refine rW ?_;rw[decide_eq_false fun h=>h1 (by rw[h])]
 have h1:a.length=b.length:=by have:=Ko h1;omega
 intros;refine gN ?_;intros;refine gR 11 12 c29r3.eq_1 ?_;intros;refine dy ?_;refine dV (fun e h=>∃ k:Nat,(k≤a.length∧a.take k=b.take k)∧e 13=.int .i64 k∧e 12=.int .i64 a.length∧e 0=.slice A a.length c∧e 1=.slice B b.length d∧h=⟨G,[],[]⟩) (fun e h=>a.length - iv (e 13)) ?_ ?_
 ·exact⟨0,⟨Nat.zero_le _,rfl⟩,eE,eE,eE,eE,rfl⟩
 ·rintro e h ⟨k,⟨hk,htk⟩,e13,e12,e0,e1,rfl⟩;refine dC [0,1,12,13] ?_;refine sJ4 @e0 @e1 @e12 @e13 ?_;intros;refine gR 0 0 c29r4.eq_1 ?_;intros;refine gC ?_;refine gb (fun ht=>?_) (fun ht=>?_)
  ·have ht:k < a.length:=by have:=Kn ht;omega
   have hw:=fi k c (by omega) hm;obtain⟨x,hx⟩:∃ x,a[k]?=some x:=⟨a[k],getElem?_eq_getElem (by omega)⟩;obtain⟨y,hy⟩:∃ y,b[k]?=some y:=⟨b[k],getElem?_eq_getElem (by omega)⟩;intros;refine gN ?_;intros;refine gR 15 16 c29r5.eq_1 ?_;intros;refine dy ?_;refine nP _ Kl (by decide) ?_;refine sJ c29r6.eq_1 ?_;refine hA.y_ld hx rfl rfl ?_;rintro a1 ha1 cs hbx;refine sI ?_
   refine hB.y_ld hy rfl rfl ?_;rintro a2 ha2 ds hby;have hsm:=yO x y cs ds G hbx hby;obtain⟨B1,d1,rfl,-⟩:=hbx;obtain⟨B2,d2,rfl,-⟩:=hby;unfold eP at hsm ⊢;refine sI ?_;refine fK (hsm _ _) ?_;intros;refine gC ?_;refine gb (fun h3=>?_) (fun h3=>?_)
   ·have h3:¬ x=y:=by simpa using h3
    intros;refine gR 0 0 c29r7.eq_1 ?_;intros;refine rW ?_;rw[decide_eq_false fun h=>h3 (by rw[h,hy]at hx;cases hx;rfl)]
   ·have h3:x=y:=by simpa using h3
    intros;refine gN ?_;intros;refine gR2 26 27 c29r8.eq_1 @hw ?_;intros;refine dy ?_;refine ej ⟨⟨k+1,⟨by omega,iZ htk hx hy h3⟩,eE,eE,eE,eE,rfl⟩,?_⟩;refine sI ?_;omega
  ·have ht:k=a.length:=by have:=Ko ht;omega
   refine dS ?_;refine sI ?_;intros;refine gR 0 0 c29r9.eq_1 ?_;intros;refine rW ?_;rw[decide_eq_true (kY ht h1 htk)]
theorem wj:∀ {nx:Int} {bs:Kg},uY nx bs→(∀ x∈bs,fx x=0)→nx≤eF nx bs
 | nx,[],_,_=>Int.le_refl _
 | nx,x :: bs,ho,hok=>by
  have h1:=wj ho.2 (fun z hz=>hok z (.tail _ hz));have h2:x.base≤x.last:=(ja (hok x (.head _))).1.2.2.1.1;have h3:=ho.1;simp only[eF];omega
def fh(s:Sg):Bool:=inO s.base && decide (f0 s=s.bytes.length)
structure Lg where
 limit:Int
 start:Int
 segs:List Sg
deriving DecidableEq
def gy:Lg:=⟨0,0,[]⟩
def mB(limit start:Int):Bool:=decide (256≤limit) && decide (limit≤4096) && inO start
def tG(a b:Sg):Bool:=decide (a.base < b.base) && decide (gY a≤b.base)
def DL(limit:Int)(p:Option Sg)(s:Sg):Prop:=(fh s=true∧(s.bytes.length:Int)≤limit)∧∀ a,p=some a→tG a s=true
instance (limit:Int) (s:Sg):∀ p,Decidable (DL limit p s)
 | none=>if h:fh s=true∧(s.bytes.length:Int)≤limit then .isTrue ⟨h,fun a h=>by cases h⟩else .isFalse fun hh=>h hh.1
 | some a=>if h:(fh s=true∧(s.bytes.length:Int)≤limit)∧tG a s=true then .isTrue ⟨h.1,fun b hb=>by cases hb;exact h.2⟩else .isFalse fun hh=>h ⟨hh.1,hh.2 a rfl⟩
def okS(limit:Int):Option Sg→List Sg→Prop
 | _,[]=>True
 | p,s :: ss=>DL limit p s∧okS limit (some s) ss
instance (limit:Int):∀ p l,Decidable (okS limit p l)
 | _,[]=>.isTrue trivial
 | p,s :: ss=>@instDecidableAnd _ _ (inferInstance) (instDecidableOkS limit (some s) ss)
where instDecidableOkS (limit:Int):∀ p l,Decidable (okS limit p l)
 | _,[]=>.isTrue trivial
 | p,s :: ss=>@instDecidableAnd _ _ (inferInstance) (instDecidableOkS limit (some s) ss)
def j8:Option Sg→List Sg→Option Sg
 | p,[]=>p
 | _,s :: ss=>j8 (some s) ss
theorem yy(p:Option Sg)(a b:List Sg):j8 p (a++b)=j8 (j8 p a) b:=by
 induction a generalizing p with
 | nil=>rfl
 | cons x a ih=>exact ih _
theorem jN(limit:Int)(p:Option Sg)(a b:List Sg):okS limit p (a++b)↔okS limit p a∧okS limit (j8 p a) b:=by
 induction a generalizing p with
 | nil=>simp[okS,j8]
 | cons x a ih=>simp only[List.cons_append,okS,j8,ih,and_assoc]
theorem mR(p:Option Sg)(a:List Sg)(s:Sg):j8 p (a++[s])=some s:=by rw[yy];rfl
theorem eo{α:Type}{l:List α}{k:Nat}{x:α}(h:l[k]?=some x):l.take (k+1)=l.take k++[x]:=by rw[List.take_add_one,h];rfl
theorem qy{l:List Sg}{k:Nat}{s:Sg}(p:Option Sg)(h:l[k]?=some s):j8 p (l.take (k+1))=some s:=by rw[eo h,mR]
theorem tl{limit:Int}{l:List Sg}{k:Nat}{s:Sg}(h:l[k]?=some s):okS limit none (l.take (k+1))↔okS limit none (l.take k)∧DL limit (j8 none (l.take k)) s:=by
 rw[eo h,jN];simp[okS]
theorem Cb{limit:Int}{p:Option Sg}{l:List Sg}(h:okS limit p l)(k:Nat):okS limit p (l.take k):=by
 rw[← List.take_append_drop k l,jN]at h;exact h.1
theorem ry{limit:Int}{l:List Sg}:∀ {p:Option Sg},okS limit p l→∀ s∈l,fh s=true∧(s.bytes.length:Int)≤limit:=by
 induction l with
 | nil=>intro p _ s h;cases h
 | cons x l ih =>
  intro p h s hs;rcases List.mem_cons.1 hs with rfl | hs
  ·exact h.1.1
  ·exact ih h.2 s hs
theorem qU{l:List Sg}{s:Sg}(p:Option Sg)(h:l[l.length - 1]?=some s):j8 p l=some s:=by
 have h0:=(List.getElem?_eq_some_iff.1 h).1;have:=qy p h
 rwa [Nat.sub_add_cancel (by omega),take_length]at this
def fq(l:Lg):Int:=if mB l.limit l.start=true∧l.segs≠[]∧okS l.limit none l.segs then(if 256 < l.segs.length then 2 else 0)else 1
theorem fB{l:Lg}(h:fq l=0):mB l.limit l.start=true∧l.segs≠[]∧okS l.limit none l.segs∧l.segs.length≤256:=by
 unfold fq at h;split at h
 ·rename_i h1;split at h
  ·cases h
  ·exact⟨h1.1,h1.2.1,h1.2.2,by omega⟩
 ·cases h
theorem l4{l:Lg}(h1:mB l.limit l.start=true)(h2:l.segs≠[])(h3:okS l.limit none l.segs)(h4:l.segs.length≤256):fq l=0:=by
 rw[fq,if_pos ⟨h1,h2,h3⟩,if_neg (by omega)]
theorem ij{a b:Int}:mB a b=true↔(256≤a∧a≤4096)∧inO b=true:=by simp[mB]
def ut(n:Int):Option Sg→Int
 | none=>n
 | some s=>max n (gY s)
def oa(l:Lg):Int:=ut l.start (j8 none l.segs)
def ec(l:Lg):Int:=if fq l=0 then oa l else 0
def Bq:Int→List Sg→Int
 | n,[]=>n
 | n,s :: ss=>Bq (max n (gY s)) ss
theorem eB{s:Sg}:fh s=true↔f0 s=s.bytes.length∧inO s.base=true:=by
 simp[fh,and_comm]
theorem Scans.ge{nx:Int}{q r:Kf}{bs:Kg}(h:Scans nx q bs r):nx≤eF nx bs:=by
 have:=jy h.ord h.ok 0;simpa [eF]using this
theorem lS(s:Sg):s.base≤gY s:=by
 obtain⟨r,h⟩:=eG s;exact h.ge
theorem il{a b:Sg}:tG a b=true↔a.base < b.base∧gY a≤b.base:=by simp[tG]
theorem u9{limit:Int}:∀ {l:List Sg} {p:Option Sg} {n:Int},okS limit p l→Bq (ut n p) l=ut n (j8 p l)
 | [],p,n,h=>rfl
 | s :: l,p,n,h=>by
  show Bq (max (ut n p) (gY s)) l=ut n (j8 (some s) l);have:max (ut n p) (gY s)=ut n (some s):=by
   cases p with
   | none=>rfl
   | some a =>
    have:=il.1 (h.1.2 a rfl);have:=lS s;show max (max n (gY a)) (gY s)=max n (gY s);omega
  rw[this];exact u9 h.2
def bsS(l:List Sg):Kg:=l.flatMap ef
theorem jH:bsS []=[]:=rfl
theorem fJ(s:Sg)(l:List Sg):bsS (s :: l)=ef s++bsS l:=rfl
theorem iy(a b:List Sg):bsS (a++b)=bsS a++bsS b:=by simp[bsS]
def fM(off:Int)(l:Kg):Kg:=l.filter fun b=>decide (off≤b.last)
theorem iL(off:Int)(a b:Kg):fM off (a++b)=fM off a++fM off b:=by simp[fM]
def u0(l:Lg):Kg:=fM l.start (bsS l.segs)
def gz(l:Lg):Kg:=if fq l=0 then u0 l else[]
def qt(limit start:Int):Lg × Int:=if mB limit start=true then(⟨limit,start,[⟨start,[]⟩]⟩,0)else(gy,1)
def wo(l:Lg):Sg:=(j8 none l.segs).getD jQ
def gJ(l:Lg)(b:Batch):Lg × Int :=
 if fq l=0 then
  if fx b=0 then
   if b.base < oa l then(gy,71)
   else if l.limit < ((dK b).length:Int)then(gy,70)
   else if (jF (wo l) b l.limit).2=0 then(⟨l.limit,l.start,l.segs.take (l.segs.length - 1)++[(jF (wo l) b l.limit).1]⟩,0)
   else if l.segs.length=256 then(gy,2)
   else(⟨l.limit,l.start,l.segs++[⟨b.base,dK b⟩]⟩,0)
  else(gy,fx b)
 else(gy,fq l)
def uW(l:Lg)(off:Int):Bool:=decide (l.start≤off) && decide (off≤oa l)
def jT(l:List Sg)(to:Int):List Sg:=(l.filter fun s=>decide (s.base < to)).map fun s=>pE s to
def nQ(l:List Sg)(to:Int):List Sg:=if jT l to=[]then[⟨to,[]⟩]else jT l to
def j5(l:Lg)(to:Int):Lg × Int :=
 if fq l=0 then if uW l to=true then(⟨l.limit,l.start,nQ l.segs to⟩,0)else(gy,90)else(gy,fq l)
def uR(l:Lg)(n:Nat):Sg:=l.segs.getD n jQ
def jb(p:Option Sg)(s:Sg):Bool :=
 match p with
 | none=>true
 | some a=>fh a && tG a s
def gj:Option Sg→List Sg→List Sg
 | _,[]=>[]
 | p,s :: ss=>if jb p s=true then(lK s).1 :: gj (some s) ss else[]
def gA:List Sg→Nat
 | []=>0
 | s :: ss=>s.bytes.length+gA ss
theorem lC(a b:List Sg):gA (a++b)=gA a+gA b:=by
 induction a with
 | nil=>simp[gA]
 | cons x a ih=>simp only[List.cons_append,gA,ih];omega
def nr(l:Lg):Bool:=match l.segs with | []=>false | s :: _=>inO s.base
def ib(l:Lg):Lg × Int :=
 if mB l.limit l.start=true∧nr l=true then(⟨l.limit,l.start,gj none l.segs⟩,(gA l.segs:Int) - (gA (gj none l.segs):Int))else(gy,0)
theorem rb{a b:Int}(h:mB a b=true):nS a=true:=by
 have:=ij.1 h;exact su.2 ⟨by omega,by omega⟩
theorem FA{a b:Int}(h:mB a b=true):inO b=true:=(ij.1 h).2
theorem ny{b:Batch}(h:fx b=0):b.base≤b.last:=(ja h).1.2.2.1.1
theorem tg{b:Batch}(h:fx b=0):inO b.base=true∧inO b.last=true:=by
 obtain⟨⟨f1,f2,-⟩,-⟩:=(ja h).1;simp[rng]at f1 f2;exact⟨fO.2 (by omega),fO.2 (by omega)⟩
theorem xJ{s:Sg}{b:Batch}{limit:Int}(hw:fh s=true)(hl:nS limit=true)(h0:fx b=0)(ho:gY s≤b.base):
  jF s b limit=if limit < ((s.bytes.length+(dK b).length:Nat):Int)then(jQ,70)else(⟨s.base,s.bytes++dK b⟩,0):=by
 have hw:=eB.1 hw;split
 ·rename_i h;exact Bh ⟨hw.1,hw.2,hl⟩ h0 (by omega) h
 ·rename_i h;exact wB ⟨hw.1,hw.2,hl⟩ h0 (by omega) h
theorem Fx{base:Int}(h:inO base=true):uT base=(⟨base,[]⟩,0):=if_pos h
theorem CH(base:Int):gY ⟨base,[]⟩=base:=rfl
theorem EA{b:Batch}{limit:Int}(hl:nS limit=true)(h0:fx b=0)(h1:((dK b).length:Int)≤limit):ofS b.base [b] limit=(⟨b.base,dK b⟩,0):=by
 have hin:=(tg h0).1;have ha:jF ⟨b.base,[]⟩ b limit=(⟨b.base,dK b⟩,0):=by
  have:=wB (s:=⟨b.base,[]⟩) (x:=b) (limit:=limit) ⟨rfl,hin,hl⟩ h0 (by rw[CH];omega) (by simp;omega);rw[this];simp
 unfold ofS;rw[Fx hin,if_pos ⟨rfl,hl⟩];simp only[ofL,ha,if_true]
theorem lk{b:Batch}(h0:fx b=0):ef ⟨b.base,dK b⟩=[b] :=
 Scans.is (r:=[]) ⟨by simp[ft],fun x hx=>by simp at hx;subst hx;exact h0,⟨Int.le_refl _,trivial⟩,pC⟩
theorem vV{b:Batch}(h0:fx b=0):fh ⟨b.base,dK b⟩=true :=
 eB.2 ⟨by rw[f0,lk h0];simp[ft],(tg h0).1⟩
theorem CS{b:Batch}(h0:fx b=0):gY ⟨b.base,dK b⟩=b.last+1:=by rw[gY,lk h0];rfl
theorem la{s:Sg}(h:f0 s=s.bytes.length):s.bytes=ft (ef s):=by
 obtain⟨r,hs⟩:=eG s;have e:=hs.eq;have hl:=congrArg List.length e;rw[length_append]at hl;have:r=[]:=List.eq_nil_of_length_eq_zero (by unfold f0 at h;omega);rw[this,append_nil]at e;exact e
theorem xR{s:Sg}{b:Batch}(hw:fh s=true)(h0:fx b=0)(ho:gY s≤b.base):ef ⟨s.base,s.bytes++dK b⟩=ef s++[b]∧fh ⟨s.base,s.bytes++dK b⟩=true∧gY ⟨s.base,s.bytes++dK b⟩=b.last+1:=by
 have hw:=eB.1 hw;have h1:ef ⟨s.base,s.bytes++dK b⟩=ef s++[b]:=Scans.is (r:=[]) (ya hw.1 h0 ho);refine⟨h1,eB.2 ⟨?_,hw.2⟩,?_⟩
 ·rw[f0,h1,lu,← la hw.1];simp[ft]
 ·rw[gY,h1,fY];rfl
theorem gQ{l:List Sg}(h:l≠[]):∃ s,l[l.length - 1]?=some s∧l=l.take (l.length - 1)++[s]∧j8 none l=some s:=by
 have h0:0 < l.length:=List.length_pos_iff.2 h;refine⟨l[l.length - 1]'(by omega),getElem?_eq_getElem _,?_,?_⟩
 ·have:=eo (l:=l) (k:=l.length - 1) (getElem?_eq_getElem (by omega))
  rwa [Nat.sub_add_cancel (by omega),take_length]at this
 ·exact qU none (getElem?_eq_getElem _)
theorem rS(l:Lg):l.start≤oa l:=by
 unfold oa ut;split <;> omega
theorem ky{l:Lg}(h:fq l=0):∃ s,l.segs[l.segs.length - 1]?=some s∧l.segs=l.segs.take (l.segs.length - 1)++[s]∧wo l=s∧oa l=max l.start (gY s)∧DL l.limit (j8 none (l.segs.take (l.segs.length - 1))) s:=by
 obtain⟨h1,h2,h3,h4⟩:=fB h;obtain⟨s,e1,e2,e3⟩:=gQ h2;refine⟨s,e1,e2,by rw[wo,e3];rfl,by rw[oa,e3];rfl,?_⟩;rw[e2,jN]at h3;exact h3.2.1
theorem g0{l:Lg}{b:Batch}(h:(gJ l b).2=0):(fq l=0∧fx b=0∧oa l≤b.base∧((dK b).length:Int)≤l.limit)∧((gJ l b).1.limit=l.limit∧(gJ l b).1.start=l.start)∧fq (gJ l b).1=0∧oa (gJ l b).1=b.last+1∧bsS (gJ l b).1.segs=bsS l.segs++[b]∧((gJ l b).1.segs.length=l.segs.length∨(gJ l b).1.segs.length=l.segs.length+1):=by
 have hge:=rS l;unfold gJ at h ⊢;by_cases k0:¬ fq l=0
 ·rw[if_neg k0]at h;exact absurd h k0
 have k0:=Decidable.not_not.1 k0;rw[if_pos k0]at h ⊢;by_cases k1:¬ fx b=0
 ·rw[if_neg k1]at h;exact absurd h k1
 have k1:=Decidable.not_not.1 k1;rw[if_pos k1]at h ⊢;by_cases k2:b.base < oa l
 ·rw[if_pos k2]at h;cases h
 rw[if_neg k2]at h ⊢;by_cases k3:l.limit < ((dK b).length:Int)
 ·rw[if_pos k3]at h;cases h
 rw[if_neg k3]at h ⊢;refine⟨⟨k0,k1,by omega,by omega⟩,?_⟩;obtain⟨c1,c2,c3,c4⟩:=fB k0;obtain⟨s,e1,e2,e3,e4,e5⟩:=ky k0;have hb:=ny k1;rw[e3]at h ⊢;have hap:=xJ e5.1.1 (rb c1) k1 (show gY s≤b.base by omega);have hlen:0 < l.segs.length:=List.length_pos_iff.2 c2;have hok:=c3;rw[e2,jN]at hok;by_cases k4:l.limit < ((s.bytes.length+(dK b).length:Nat):Int)
 ·rw[if_pos k4]at hap;rw[hap]at h ⊢;rw[if_neg (by decide)]at h ⊢;by_cases k5:l.segs.length=256
  ·rw[if_pos k5]at h;cases h
  rw[if_neg k5]at h ⊢;refine⟨⟨rfl,rfl⟩,l4 c1 (by simp) ?_ (by simp;omega),?_,?_,.inr (by simp)⟩
  ·show okS l.limit none (l.segs++[⟨b.base,dK b⟩]);rw[jN];refine⟨c3,⟨⟨vV k1,by show((dK b).length:Int)≤_;omega⟩,fun a ha=>?_⟩,trivial⟩;rw[qU none e1]at ha;cases ha;have hwb:s.base < b.base:=by
    have h6:=(eB.1 e5.1.1).1;have h7:=la h6;obtain⟨r,hs⟩:=eG s;have hne:ef s≠[]:=fun hh=>by
     rw[hh]at h7;have:s.bytes.length=0:=by rw[h7];rfl
     omega
    obtain⟨x,bs,hx⟩:=List.exists_cons_of_ne_nil hne;have ho:=hs.ord;have hk:=hs.ok;rw[hx]at ho hk;have h8:=ny (hk x (.head _));have h9:=wj ho.2 (fun z hz=>hk z (.tail _ hz));have h10:gY s=eF (x.last+1) bs:=by rw[gY,hx];rfl
    have h11:=ho.1;omega
   exact il.2 ⟨hwb,by show gY s≤b.base;omega⟩
  ·show ut l.start (j8 none (l.segs++[_]))=_;rw[mR];show max l.start (gY ⟨b.base,dK b⟩)=_;rw[CS k1];omega
  ·show bsS (l.segs++[_])=_;rw[iy];congr 1;rw[fJ,jH,lk k1];rfl
 ·rw[if_neg k4]at hap;rw[hap]at h ⊢;rw[if_pos rfl];obtain⟨g1,g2,g3⟩:=xR e5.1.1 k1 (show gY s≤b.base by omega);have hl2:(l.segs.take (l.segs.length - 1)++[(⟨s.base,s.bytes++dK b⟩:Sg)]).length=l.segs.length:=by
   rw[length_append,List.length_take];simp only[length_cons,List.length_nil];omega
  refine⟨⟨rfl,rfl⟩,l4 c1 (by simp) ?_ (by show List.length _≤_;rw[hl2];omega),?_,?_,.inl hl2⟩
  ·show okS l.limit none (_++[_]);rw[jN];refine⟨hok.1,⟨⟨g2,by show((s.bytes++dK b).length:Int)≤_;rw[length_append];omega⟩,fun a ha=>?_⟩,trivial⟩;exact e5.2 a ha
  ·show ut l.start (j8 none (_++[_]))=_;rw[mR];show max l.start (gY ⟨s.base,s.bytes++dK b⟩)=_;rw[g3];omega
  ·show bsS (_++[_])=_;rw[iy,fJ,jH,append_nil,g1,← append_assoc];congr 1
   conv=>rhs;rw[e2]
   rw[iy,fJ,jH,append_nil]
theorem sP{l:Lg}{b:Batch}(h:(gJ l b).2=0):u0 (gJ l b).1=u0 l++[b]:=by
 obtain⟨⟨-,h1,h2,-⟩,⟨h3,h4⟩,-,-,h5,-⟩:=g0 h;have:=rS l;have:=ny h1;unfold u0;rw[h4,h5,iL];congr 1;unfold fM;rw[List.filter_cons,if_pos (by simp;omega)];rfl
theorem C5{l:Lg}{b:Batch}(h:¬ (gJ l b).2=0):(gJ l b).1=gy:=by
 unfold gJ at h ⊢
 repeat' split
 all_goals first | rfl | skip
 all_goals simp_all
theorem qC{s:Sg}(h:fh s=true):(ft (ef s)).length=s.bytes.length:=(eB.1 h).1
theorem vJ{limit:Int}:∀ {l:List Sg} {p:Option Sg},okS limit p l→(ft (bsS l)).length=gA l
 | [],_,_=>rfl
 | s :: l,p,h=>by
  rw[fJ,lu,length_append,qC h.1.1.1,gA,vJ h.2]
theorem vy{limit:Int}:∀ {l:List Sg} {p:Option Sg},okS limit p l→(gA l:Int)≤limit * l.length
 | [],_,_=>by simp[gA]
 | s :: l,p,h=>by
  have h1:=vy h.2;have h2:=h.1.1.2;rw[gA,length_cons];push_cast;rw[Int.mul_add];omega
theorem xd(off:Int)(l:Kg):(ft (fM off l)).length≤(ft l).length:=by
 induction l with
 | nil=>exact Nat.le_refl _
 | cons b l ih =>
  unfold fM at ih ⊢;rw[List.filter_cons];split
  ·simp only[fm,length_append];omega
  ·simp only[fm,length_append];omega
theorem xZ{l:List Sg}:∀ x∈bsS l,fx x=0:=fun x hx=>by
 obtain⟨s,-,hs⟩:=List.mem_flatMap.1 hx;obtain⟨r,h⟩:=eG s;exact h.ok x hs
theorem HK{s:Sg}(h:fh s=true):lK s=(s,0):=by
 have:=(eB.1 h).1;unfold lK;rw[this,take_length];cases s;simp
theorem pj{limit:Int}:∀ {l m:List Sg} {p:Option Sg},(∀ a,p=some a→fh a=true)→okS limit p l→gj p (l++m)=l++gj (j8 p l) m
 | [],m,p,_,_=>rfl
 | s :: l,m,p,hp,h=>by
  have hk:jb p s=true:=by
   cases p with
   | none=>rfl
   | some a=>simp[jb,hp a rfl,h.1.2 a rfl]
  rw[List.cons_append,gj,if_pos hk,HK h.1.1.1,pj (fun a ha=>by cases ha;exact h.1.1.1) h.2];rfl
theorem DR{limit:Int}{l:List Sg}(h:okS limit none l):gj none l=l:=by
 have:=pj (m:=[]) (fun a ha=>by cases ha) h;rw[append_nil]at this;rw[this,gj,append_nil]
theorem tF{l:Lg}(h:fq l=0):nr l=true:=by
 obtain⟨h1,h2,h3,h4⟩:=fB h;unfold nr;cases hs:l.segs with
 | nil=>exact absurd hs h2
 | cons s ss =>
  rw[hs]at h3;exact(eB.1 h3.1.1.1).2
theorem oM{l:Lg}(h:fq l=0):ib l=(l,0):=by
 obtain⟨h1,h2,h3,h4⟩:=fB h;unfold ib;rw[if_pos ⟨h1,tF h⟩,DR h3];simp
structure Hurt (l x:Lg) (s s':Sg) (A C:List Sg) (j:Nat):Prop where
 ok:fq l=0
 lim:x.limit=l.limit
 sta:x.start=l.start
 was:l.segs=A++s :: C
 is_:x.segs=A++s' :: C
 base:s'.base=s.base
 len:s'.bytes.length≤s.bytes.length
 scan:ef s'=(ef s).take j
 stop:C=[]∨fh s'=false
theorem zw(s:Sg):ef (lK s).1=ef s∧f0 (lK s).1=(lK s).1.bytes.length∧(lK s).1.bytes.length=f0 s:=by
 obtain⟨r,h⟩:=eG s;have h1:=qG h (ef s).length;rw[take_length]at h1;have h2:=mJ s;have h3:(lK s).1.bytes.length=f0 s:=by
  unfold lK;rw[List.length_take];omega
 exact⟨h1,by rw[h3];show(ft (ef (lK s).1)).length=_;rw[show ef (lK s).1=ef s from h1];rfl,h3⟩
theorem Hurt.rec_{l x:Lg}{s s':Sg}{A C:List Sg}{j:Nat}(h:Hurt l x s s' A C j):
  ib x=(⟨l.limit,l.start,A++[(lK s').1]⟩,(s'.bytes.length:Int) - (f0 s':Int)+(gA C:Int))∧fq ⟨l.limit,l.start,A++[(lK s').1]⟩=0∧(∃ t,u0 l=u0 ⟨l.limit,l.start,A++[(lK s').1]⟩++t):=by
 obtain⟨h1,h2,h3,h4⟩:=fB h.ok;rw[h.was,jN]at h3;obtain⟨hA,hs,hC⟩:=h3;have hin:=(eB.1 hs.1.1).2;obtain⟨f1,f2,f3⟩:=zw s';have fb:(lK s').1.base=s.base:=h.base;have hfw:fh (lK s').1=true:=eB.2 ⟨f2,by rw[fb];exact hin⟩;have hgl:=mJ s';have hlen:=h.len;have hk:jb (j8 none A) s'=true:=by
  cases he:j8 none A with
  | none=>rfl
  | some a =>
   have hwa:fh a=true:=by
    cases A with
    | nil=>cases he
    | cons y A' =>
     obtain⟨t,e1,e2,e3⟩:=gQ (l:=y :: A') (by simp);rw[e3]at he;cases he;exact(ry hA a (by rw[e2];simp)).1
   have:=il.1 (hs.2 a he);simp[jb,hwa,tG,h.base,this]
 have hrec:gj none x.segs=A++[(lK s').1]:=by
  rw[h.is_,pj (fun a ha=>by cases ha) hA,gj,if_pos hk];congr 1;cases C with
  | nil=>rfl
  | cons c C =>
   have hw:fh s'=false:=by rcases h.stop with hh | hh;cases hh;exact hh
   rw[gj,if_neg (by simp[jb,hw])]
 have hch:fq ⟨l.limit,l.start,A++[(lK s').1]⟩=0:=by
  refine l4 h1 (by simp) ?_ ?_
  ·show okS l.limit none (A++[_]);rw[jN];refine⟨hA,⟨⟨hfw,?_⟩,fun a ha=>?_⟩,trivial⟩
   ·have:=hs.1.2;omega
   ·have:=il.1 (hs.2 a ha);exact il.2 (by rw[fb];exact this)
  ·have h5:=congrArg List.length h.was;simp at h5 ⊢;omega
 refine⟨?_,hch,?_⟩
 ·have hhead:nr x=true:=by
   unfold nr;rw[h.is_];have hh:=tF h.ok;unfold nr at hh;rw[h.was]at hh;cases A with
   | nil=>simp only[List.nil_append]at hh ⊢;rw[h.base];exact hh
   | cons y A'=>exact hh
  unfold ib;rw[h.lim,h.sta,if_pos ⟨h1,hhead⟩,hrec,h.is_,lC,lC,gA,gA,gA,f3];congr 1;omega
 ·refine⟨fM l.start ((ef s).drop j++bsS C),?_⟩;unfold u0;dsimp only;rw[h.was,iy,fJ,iy,fJ,jH,append_nil,f1,h.scan,← iL];congr 1;rw[append_assoc,← append_assoc ((ef s).take j),List.take_append_drop]
theorem DB{limit start:Int}(h:(qt limit start).2=0):qt limit start=(⟨limit,start,[⟨start,[]⟩]⟩,0)∧mB limit start=true:=by
 unfold qt at h ⊢;split at h
 ·rename_i h1;rw[if_pos h1];exact⟨rfl,h1⟩
 ·cases h
theorem wy{limit start:Int}(h:mB limit start=true):fq ⟨limit,start,[⟨start,[]⟩]⟩=0:=by
 have:=(ij.1 h);exact l4 h (by simp) ⟨⟨⟨eB.2 ⟨rfl,this.2⟩,by show(0:Int)≤limit;omega⟩,fun a ha=>by cases ha⟩,trivial⟩ (by simp)
theorem vH:∀ {l:List Sg} {n:Int},n≤Bq n l∧∀ a∈l,gY a≤Bq n l
 | [],n=>⟨Int.le_refl _,fun a ha=>by cases ha⟩
 | s :: l,n=>by
  obtain⟨h1,h2⟩:=vH (l:=l) (n:=max n (gY s));refine⟨by show n≤Bq _ l;omega,fun a ha=>?_⟩;rcases List.mem_cons.1 ha with rfl | ha
  ·show gY a≤Bq _ l;omega
  ·exact h2 a ha
theorem vr{limit:Int}{A R:List Sg}{s:Sg}(h:okS limit none (A++s :: R)):∀ a∈A,gY a≤s.base:=fun a ha=>by
 rw[jN]at h;have h1:=(vH (l:=A) (n:=s.base - 1)).2 a ha;rw[show Bq (s.base - 1) A=ut (s.base - 1) (j8 none A)from u9 (p:=none) h.1]at h1;cases he:j8 none A with
 | none=>rw[he]at h1;simp[ut]at h1;omega
 | some e =>
  rw[he]at h1;have:=il.1 (h.2.1.2 e he);simp only[ut]at h1;omega
theorem nv{limit:Int}:∀ {l:List Sg} {a:Sg},okS limit (some a) l→∀ c∈l,gY a≤c.base
 | s :: l,a,h,c,hc=>by
  have h1:=il.1 (h.1.2 a rfl);rcases List.mem_cons.1 hc with rfl | hc
  ·exact h1.2
  ·have h2:=nv h.2 c hc;have h3:=lS s;omega
theorem jI{α:Type}{l:List α}{k:Nat}{x:α}(h:l[k]?=some x):l=l.take k++x :: l.drop (k+1):=by
 obtain⟨h1,h2⟩:=List.getElem?_eq_some_iff.1 h
 conv=>lhs;rw[← List.take_append_drop k l,List.drop_eq_getElem_cons h1,h2]
theorem tj{α:Type}{l:List α}{k:Nat}{x:α}(y:α)(h:l[k]?=some x):l.set k y=l.take k++y :: l.drop (k+1):=by
 have h1:=(List.getElem?_eq_some_iff.1 h).1;rw[List.set_eq_take_append_cons_drop,if_pos h1]
theorem F142:Fun Tryz.prog 142 9 v142 c142 o142:=Fun.mkA Tryz.func142 Tryz.ntmps142
theorem F103:Fun Tryz.prog 103 15 v103 c103 o103:=Fun.mkA Tryz.func103 Tryz.ntmps103
theorem F112:Fun Tryz.prog 112 20 v112 c112 o112:=Fun.mkA Tryz.func112 Tryz.ntmps112
theorem F113:Fun Tryz.prog 113 17 v113 c113 o113:=Fun.mkA Tryz.func113 Tryz.ntmps113
theorem F115:Fun Tryz.prog 115 7 v115 c115 o115:=Fun.mkA Tryz.func115 Tryz.ntmps115
theorem F63:Fun Tryz.prog 63 13 v63 c63 o63:=Fun.mkA Tryz.func63 Tryz.ntmps63
theorem F206:Fun Tryz.prog 206 15 v206 c206 o206:=Fun.mkA Tryz.func206 Tryz.ntmps206
theorem F62:Fun Tryz.prog 62 56 v62 c62 o62:=Fun.mkA Tryz.func62 Tryz.ntmps62
theorem F22:Fun Tryz.prog 22 8 v22 c22 o22:=Fun.mkA Tryz.func22 Tryz.ntmps22
def es(l:Lg)(A:Ka)(c:Nat):J6:=[.int .i64 l.limit,.int .i64 l.start,.slice A l.segs.length c]
def LE(G:J5)(l:Lg)(cs:J6):Prop:=∃ A c,cs=es l A c∧SlV G (SE G) 2 (.slice A l.segs.length c) l.segs∧I64 l.limit∧I64 l.start
def smL(l:List Sg):Prop:=∀ s∈l,s.bytes.length≤100000
theorem SlSE.le{G G':J5}(hg:Gle G G'){v:Value}{l:List Sg}(h:SlV G (SE G) 2 v l):SlV G' (SE G') 2 v l:=by
 obtain⟨A,c,h1,h2,h3,h4⟩:=h;exact⟨A,c,h1,h2,h3,h4.le hg fun _ _ h=>SE.le hg h⟩
theorem LE.le{G G':J5}(hg:Gle G G'){l:Lg}{cs:J6}(h:LE G l cs):LE G' l cs:=by
 obtain⟨A,c,h1,h2,h3⟩:=h;exact⟨A,c,h1,SlSE.le hg h2,h3⟩
theorem nC(n:Int)(G:J5):FnS Tryz.prog 142 #[.int .i64 n] G (.bool (inO n)):=by
 refine F142.fnS (by simp) (dI ?_);unfold c142;intros;refine gR 0 0 c142r0.eq_1 ?_;intros;refine gR 3 9 c142r1.eq_1 ?_;refine gdD (fun h=>?_) (fun h=>?_)
 ·refine sI ?_;intros;refine rW ?_;rw[inO,decide_eq_true h,Bool.true_and]
 ·refine sI ?_;intros;refine rW ?_;rw[inO,decide_eq_false h,Bool.false_and]
theorem wr(a b:Int)(G:J5):FnS Tryz.prog 103 #[.int .i64 a,.int .i64 b] G (.bool (mB a b)):=by
 refine F103.fnS (by simp) (dI ?_);unfold c103;intros;refine gR 0 0 c103r0.eq_1 ?_;intros;refine gR 5 15 c103r1.eq_1 ?_;refine gd (fun h=>?_) (fun h=>?_)
 ·refine sI ?_;refine gd (fun h2=>?_) (fun h2=>?_)
  ·refine sI ?_;refine fK (nC _ _ _ _) ?_;intros;refine rW ?_;rw[mB,h,h2,Bool.true_and,Bool.true_and]
  ·refine sI ?_;intros;refine rW ?_;rw[mB,h2,Bool.and_false,Bool.false_and]
 ·refine sI ?_;intros;refine rW ?_;rw[mB,h,Bool.false_and,Bool.false_and]
theorem tE(s:Sg)(cs:J6)(G:J5)(hs:SE G s cs)(hb:s.bytes.length≤1000000):FnS Tryz.prog 112 #[.agg cs.toArray] G (.bool (fh s)):=by
 have hscan:=pt s cs G hs hb;obtain⟨A,c,rfl,hl,hi⟩:=hs;have hd:decide (((f0 s:Nat):Int)=((s.bytes.length:Nat):Int))=decide (f0 s=s.bytes.length):=decide_eq_decide.2 (by omega);refine F112.fnS (by simp) (dI ?_);unfold c112;unfold ip at hscan ⊢;intros;refine gR 0 0 c112r0.eq_1 ?_;intros;refine gR 5 10 c112r1.eq_1 ?_;refine(hscan _ _).mono ?_;rintro r h' ⟨G1,L',rfl,hg1,u,zc,rfl,hzc,rfl⟩;refine sI ?_
 intros;refine gR 11 20 c112r2.eq_1 ?_;refine fK (nC _ _ _ _) ?_;refine gd (fun k1=>?_) (fun k1=>?_)
 ·refine sJ @hd ?_;intros;refine rW ?_;rw[fh,k1,Bool.true_and]
 ·refine sI ?_;intros;refine rW ?_;rw[fh,k1,Bool.false_and]
theorem nV(s t:Sg)(cs ds:J6)(G:J5)(hs:SE G s cs)(ht:SE G t ds)(hb:s.bytes.length≤1000000):FnS Tryz.prog 113 #[.agg cs.toArray,.agg ds.toArray] G (.bool (tG s t)):=by
 have hend:=vY s cs G hs hb;obtain⟨A,c,rfl,hl,hi⟩:=hs;obtain⟨B,d,rfl,hm,hj⟩:=ht;refine F113.fnS (by simp) (dI ?_);unfold c113;unfold ip at hend ⊢;intros;refine gR 0 0 c113r0.eq_1 ?_;intros;refine dy ?_;refine nP _ Kl (by decide) ?_;refine sJ c113r1.eq_1 ?_;refine gx (fun k1=>?_) (fun k1=>?_)
 ·refine sI ?_;refine fK (hend _ _) ?_;intros;refine rW ?_;rw[tG,k1,Bool.true_and]
 ·refine sI ?_;intros;refine rW ?_;rw[tG,k1,Bool.false_and]
theorem xk(l:Lg)(A:Ka)(c:Nat)(G:J5)(hl:l.segs.length≤1000000):FnS Tryz.prog 115 #[.agg #[.int .i64 l.limit,.int .i64 l.start,.slice A l.segs.length c]] G (.int .i64 ((l.segs.length:Int) - 1)):=by
 have hw:IntKind.i64.wrap ((l.segs.length:Int) - 1)=(l.segs.length:Int) - 1:=by rw[dX] <;> omega
 refine F115.fnS (by simp) (dI ?_);unfold c115;intros;refine gR 0 0 c115r0.eq_1 ?_;intros;refine gR2 4 7 c115r1.eq_1 @hw ?_;intros;refine rV ?_;simp only[push_cast,Nat.reduceBEq]
theorem wL(l:Lg)(cs:J6)(G:J5)(hl:LE G l cs)(hb:smL l.segs)(hn:l.segs≠[])(hm:l.segs.length≤1000000):FnS Tryz.prog 63 #[.agg cs.toArray] G (.int .i64 (oa l)):=by
 obtain⟨A,c,rfl,hsl,hi,hj⟩:=hl;obtain⟨A0,c0,he,hc,hmx,hA⟩:=hsl;cases he;obtain⟨s,e1,e2,e3⟩:=gQ hn;have h0:0 < l.segs.length:=List.length_pos_iff.2 hn;refine F63.fnS (by simp) (dI ?_);unfold c63 es;intros;refine gR 0 0 c63r0.eq_1 ?_;intros;refine dy ?_;refine nP _ Kl (by decide) ?_;refine sJ c63r1.eq_1 ?_;refine fK (xk l A c _ hm _ _) ?_;refine hA.y_ld e1 (by omega) rfl ?_;rintro a1 ha1 cs hse
 have hend:=vY s cs G hse (by have:=hb s (mem_of_getElem? e1);omega);obtain⟨B,d,rfl,-⟩:=hse;unfold ip at hend ⊢;refine sI ?_;refine fK (hend _ _) ?_;intros;refine rW ?_;rw[oa,e3];rfl
theorem tW(l:Lg)(off:Int)(cs:J6)(G:J5)(hl:LE G l cs)(hb:smL l.segs)(hn:l.segs≠[])(hm:l.segs.length≤1000000):FnS Tryz.prog 206 #[.agg cs.toArray,.int .i64 off] G (.bool (uW l off)):=by
 have hend:=wL l cs G hl hb hn hm;obtain⟨A,c,rfl,hsl,hi,hj⟩:=hl;refine F206.fnS (by simp) (dI ?_);unfold c206;unfold es at hend ⊢;intros;refine gR 0 0 c206r0.eq_1 ?_;intros;refine gR 6 15 c206r1.eq_1 ?_;refine gd (fun k1=>?_) (fun k1=>?_)
 ·refine sI ?_;refine fK (hend _ _) ?_;intros;refine rW ?_;rw[uW,k1,Bool.true_and]
 ·refine sI ?_;intros;refine rW ?_;rw[uW,k1,Bool.false_and]
theorem pM{l:List Sg}{k:Nat}{a:Sg}(hk:0 < k)(h:l[k - 1]?=some a):j8 none (l.take k)=some a:=by
 have:=qy none h
 rwa [Nat.sub_add_cancel hk]at this
theorem BQ{l:Lg}{k:Nat}{s:Sg}(hs:l.segs[k]?=some s)(h:¬ DL l.limit (j8 none (l.segs.take k)) s):fq l=1:=by
 unfold fq;rw[if_neg];rintro⟨-,-,h3⟩;exact h ((tl hs).1 (Cb h3 (k+1))).2
theorem l8(l:Lg)(cs:J6)(G:J5)(hl:LE G l cs)(hb:smL l.segs):FnS Tryz.prog 62 #[.agg cs.toArray] G (.int .i64 (fq l)):=by
 obtain⟨A,c,rfl,hsl,hi,hj⟩:=hl;obtain⟨A0,c0,he,hc,hmx,hA⟩:=hsl;cases he;refine F62.fnS (by simp) (dI ?_);unfold c62 es;intros;refine gR 0 0 c62r0.eq_1 ?_;intros;refine gR 6 16 c62r1.eq_1 ?_;refine fK (wr _ _ _ _ _) ?_;refine gd (fun k1=>?_) (fun k1=>?_)
 ·have k1:mB l.limit l.start=false:=by simpa using k1
  refine sI ?_;intros;refine gC ?_;intros;refine gR 0 0 c62r2.eq_1 ?_;intros;refine rW ?_;rw[fq,if_neg (by rw[k1];simp)]
 have k1:mB l.limit l.start=true:=by simpa using k1
 refine sI ?_;intros;refine gC ?_;refine gb (fun k2=>?_) (fun k2=>?_)
 ·have k2:l.segs=[]:=List.eq_nil_of_length_eq_zero (by have:=Kn k2;omega);intros;refine gR 0 0 c62r2.eq_1 ?_;intros;refine rW ?_;rw[fq,if_neg (by rw[k2];simp)]
 have k2:l.segs≠[]:=fun h=>by rw[h]at k2;simp at k2
 intros;refine gN ?_;intros;refine gR 0 0 c62r3.eq_1 ?_;intros;refine ez (fun e h=>okS l.limit none l.segs∧h=⟨G,[.reg 1 [.int .i64 l.limit,.int .i64 l.start,.slice A l.segs.length c]],[]⟩) ?_ ?_
 ·intros;refine dy ?_;refine dV (fun e h=>∃ k:Nat,(k≤l.segs.length∧okS l.limit none (l.segs.take k))∧e 20=.int .i64 k∧e 19=.int .i64 l.segs.length∧e 18=.slice A l.segs.length c∧h=⟨G,[.reg 1 [.int .i64 l.limit,.int .i64 l.start,.slice A l.segs.length c]],[]⟩) (fun e h=>l.segs.length - iv (e 20)) ?_ ?_
  ·exact⟨0,⟨Nat.zero_le _,trivial⟩,eE,eE,eE,rfl⟩
  rintro e h ⟨k,⟨hk,hok⟩,e20,e19,e18,rfl⟩;refine dC [18,19,20] ?_;refine sJ3 @e18 @e19 @e20 ?_;intros;refine gR 0 0 c62r4.eq_1 ?_;intros;refine gC ?_;refine gb (fun ht=>?_) (fun ht=>?_)
  ·have ht:k < l.segs.length:=by have:=Kn ht;omega
   have hw:=fi k c (by omega) hmx;obtain⟨s,hs⟩:∃ s,l.segs[k]?=some s:=⟨l.segs[k],getElem?_eq_getElem (by omega)⟩;have hbs:=hb s (mem_of_getElem? hs);intros;refine gN ?_;intros;refine gR 22 25 c62r5.eq_1 ?_;refine hA.x_ld hs rfl rfl ?_;rintro a1 ha1 cs hse;have hse0:=hse;have hwh:=tE s cs G hse (by omega);obtain⟨B,d,rfl,hsb,hsi⟩:=hse;unfold ip at hwh hse0 ⊢;refine sI ?_
   have hno:∀ (fr:Kc) (e:Env) (X:J8),¬ DL l.limit (j8 none (l.segs.take k)) s→go none Tryz.prog 56 v62.1 v62.2 (gl o62 fun v h=>v=.int .i64 (fq l)) (Td.s ((SC.reg false c62r7).seq .ret) :: fr) e ⟨G,X,[]⟩:=fun fr e X hn=>by
    intros;refine gR 0 0 c62r7.eq_1 ?_;intros;refine rW ?_;rw[BQ hs hn]
   have hnx:DL l.limit (j8 none (l.segs.take k)) s→okS l.limit none (l.segs.take (k+1)):=fun h=>(tl hs).2 ⟨hok,h⟩
   intros;refine dy ?_;refine nP _ Kl (by decide) ?_;refine sJ c62r6.eq_1 ?_;refine gxD (fun k3=>?_) (fun k3=>?_)
   ·refine sI ?_;intros;refine gC ?_;exact hno _ _ _ fun h=>by have:=h.1.2;omega
   refine sI ?_;refine fK (hwh _ _) ?_;refine gx (fun k4=>?_) (fun k4=>?_)
   ·have k4:fh s=false:=by simpa using k4
    refine sI ?_;intros;refine gC ?_;exact hno _ _ _ fun h=>by have:=h.1.1;rw[k4]at this;cases this
   have k4:fh s=true:=by simpa using k4
   refine sI ?_;refine gx (fun k5=>?_) (fun k5=>?_)
   ·have k5:0 < k:=by have:=Kn k5;omega
    have hw1:IntKind.i64.wrap ((k:Int) - 1)=(k:Int) - 1:=by unfold maxLen at hmx;rw[dX] <;> omega
    obtain⟨p,hp⟩:∃ p,l.segs[k - 1]?=some p:=⟨l.segs[k - 1],getElem?_eq_getElem (by omega)⟩;have hbp:=hb p (mem_of_getElem? hp);have hep:=pM k5 hp;refine sJ @hw1 ?_;refine hA.y_ld hp (by omega) rfl ?_;rintro a2 ha2 cs2 hpe;have hfo:=nV p s cs2 _ G hpe hse0 (by omega);obtain⟨B2,d2,rfl,-⟩:=hpe;unfold ip at hfo ⊢;refine sI ?_;refine fK (hfo _ _) ?_;intros;refine gC ?_
    refine gb (fun k6=>?_) (fun k6=>?_)
    ·have k6:tG p s=false:=by simpa using k6
     exact hno _ _ _ fun h=>by have:=h.2 p hep;rw[k6]at this;cases this
    ·have k6:tG p s=true:=by simpa using k6
     intros;refine gN ?_;refine dA (dE (L':=[.reg 1 [.int .i64 l.limit,.int .i64 l.start,.slice A l.segs.length c]]) (.cons _ Kl)) ?_;intros;refine gR2 51 52 c62r8.eq_1 @hw ?_;intros;refine dy ?_;refine ej ⟨⟨k+1,⟨by omega,hnx ⟨⟨k4,by omega⟩,fun a ha=>by rw[hep]at ha;cases ha;exact k6⟩⟩,eE,eE,eE,rfl⟩,?_⟩;refine sI ?_;omega
   ·have k5:k=0:=by have:=Ko k5;omega
    refine sI ?_;intros;refine gC ?_;refine dA (dE (L':=[.reg 1 [.int .i64 l.limit,.int .i64 l.start,.slice A l.segs.length c]]) (.cons _ Kl)) ?_;intros;refine gR2 51 52 c62r8.eq_1 @hw ?_;intros;refine dy ?_;refine ej ⟨⟨k+1,⟨by omega,hnx ⟨⟨k4,by omega⟩,fun a ha=>by rw[k5]at ha;cases ha⟩⟩,eE,eE,eE,rfl⟩,?_⟩;refine sI ?_;omega
  ·have ht:k=l.segs.length:=by have:=Ko ht;omega
   subst ht;rw[take_length]at hok;refine dS ?_;refine sI ?_;intros;refine gN ?_;exact ej ⟨hok,rfl⟩
 rintro e h ⟨hok,rfl⟩;refine dC [] ?_;intros;have hd:decide ((l.segs.length:Int) > 256)=decide (256 < l.segs.length):=decide_eq_decide.2 (by omega);intros;refine gR 53 55 c62r9.eq_1 ?_;intros;refine gC ?_;refine gbD (fun k3=>?_) (fun k3=>?_)
 ·intros;refine gR 0 0 c62r10.eq_1 ?_;intros;refine rW ?_;rw[fq,if_pos ⟨k1,k2,hok⟩,if_pos (by omega)]
 ·intros;refine gN ?_;intros;refine gR 0 0 c62r11.eq_1 ?_;intros;refine rW ?_;rw[fq,if_pos ⟨k1,k2,hok⟩,if_neg (by omega)]
theorem vE(l:Lg)(cs:J6)(G:J5)(hl:LE G l cs)(hb:smL l.segs)(hm:l.segs.length≤1000000):FnS Tryz.prog 22 #[.agg cs.toArray] G (.int .i64 (ec l)):=by
 have hchk:=l8 l cs G hl hb;have hend:=wL l cs G hl hb;obtain⟨A,c,rfl,hsl,hi,hj⟩:=hl;refine F22.fnS (by simp) (dI ?_);unfold c22;unfold es at hchk hend ⊢;intros;refine gR 0 0 c22r0.eq_1 ?_;intros;refine gR 3 5 c22r1.eq_1 ?_;refine fK (hchk _ _) ?_;intros;refine gC ?_;refine gb (fun k1=>?_) (fun k1=>?_)
 ·have k1:=Kn k1;intros;refine gR 0 0 c22r2.eq_1 ?_;intros;refine rW ?_;rw[ec,if_neg k1]
 ·have k1:fq l=0:=by simpa using k1
  intros;refine gN ?_;intros;refine gR 6 8 c22r3.eq_1 ?_;refine fK (hend (fB k1).2.1 hm _ _) ?_;intros;refine rW ?_;rw[ec,if_pos k1]
theorem F86:Fun Tryz.prog 86 8 v86 c86 o86:=Fun.mkA Tryz.func86 Tryz.ntmps86
theorem F122:Fun Tryz.prog 122 11 v122 c122 o122:=Fun.mkA Tryz.func122 Tryz.ntmps122
theorem F46:Fun Tryz.prog 46 17 v46 c46 o46:=Fun.mkA Tryz.func46 Tryz.ntmps46
theorem F69:Fun Tryz.prog 69 89 v69 c69 o69:=Fun.mkA Tryz.func69 Tryz.ntmps69
def LgR(p:Lg × Int)(G:J5)(r:Value):Prop:=∃ cs,r=.tuple #[.agg cs.toArray,.int .i64 p.2]∧LE G p.1 cs
theorem slN{α:Type}{G:J5}{E:α→J6→Prop}{sz:Nat}:SlV G E sz (.slice none 0 0) []:=⟨none,0,rfl,Nat.le_refl _,Nat.zero_le _,fun i x hx=>by simp at hx⟩
theorem iA:I64 0:=by unfold I64;decide
theorem hH{p:Int}{G:J5}:LgR (gy,p) G (.tuple #[.agg #[.int .i64 0,.int .i64 0,.slice none 0 0],.int .i64 p]):=⟨_,rfl,none,0,rfl,slN,iA,iA⟩
theorem SE1:∀ {G:J5} (x:Sg) cs,SE G x cs→∀ u∈cs,u.oneCell'=true:=fun x cs h u hu=>by
 obtain⟨A,c,rfl,-⟩:=h;simp[ip]at hu;rcases hu with rfl | rfl <;> rfl
theorem m1(l:List Sg)(v:Value)(G:J5)(hl:SlV G (SE G) 2 v l)(hb:l.length≤100000):FnO Tryz.prog 86 #[v] G [] (fun _ L' r=>yv (SE G) 120 2 l L' r):=by
 refine F86.fnO (by simp) dw (dI ?_);have hl0:=hl;obtain⟨A,c,rfl,hc,hm,hA⟩:=hl;unfold c86;intros;refine gR 0 0 c86r0.eq_1 ?_;intros;refine gR 3 4 c86r1.eq_1 ?_;intros;refine gC ?_;refine gb (fun ht=>?_) (fun ht=>?_)
 ·intros;refine gR 0 0 c86r2.eq_1 ?_;intros;refine dy ?_;have hA0:l=[]:=by
   match l,hA with
   | [],_=>rfl
   | x :: xs,hA=>obtain⟨a,_,ha,_⟩:=hA 0 x rfl;subst ha;cases ht
  subst hA0;refine dA (dW none 120 2) ?_;refine dG (dL _ rfl Kl (dz dw) ?_);exact⟨[],.nil,rfl⟩
 ·intros;refine gN ?_;intros;refine gR 5 8 c86r3.eq_1 ?_;intro b hb';refine my (.inr ⟨⟨_,rfl⟩,rfl,rfl,rfl,rfl⟩) hl0 rfl SE1 ⟨by omega,by unfold maxLen;omega⟩ fun ys A c hc=>?_
  simp only[Nat.zero_add];refine sI ?_;intros;refine dy ?_;refine dG (dL _ rfl Kl (dz dw) ?_);exact⟨ys,hc,rfl⟩
theorem jd{α:Type}{P:Program}{f:FuncId}{args:Array Value}{G:J5}{E:α→J6→Prop}{et sz:Nat}{zs:List α}(hf:FnO P f args G [] (fun _ L' r=>yv E et sz zs L' r)):
  FnO P f args G [] (fun _ L' r=>∃ A c ys,r=.slice A zs.length c∧(zs.length≤c∧c≤maxLen)∧Cells E sz zs ys∧L'=[.row r et sz zs.length ys]):=fun L D =>
 (hf L D).gx fun v h' ⟨G',L',he,hg,ys,hc,hL⟩=>by
  subst he hL;exact(gU (.head _)).mono fun h' ⟨h1,A,c,h2,h3,h4⟩=>⟨G',_,h1,hg,A,c,ys,h2,⟨h3,h4⟩,hc,rfl⟩
theorem lO(a b:Int)(B C:Ka)(m d m' d':Nat)(G:J5):FnS Tryz.prog 122 #[.agg #[.int .i64 a,.int .i64 b,.slice B m d],.slice C m' d'] G (.agg #[.int .i64 a,.int .i64 b,.slice C m' d']):=by
 refine F122.fnS (by simp) (dI ?_);unfold c122;intros;refine gR 0 0 c122r0.eq_1 ?_;intros;refine gR 6 11 c122r1.eq_1 ?_;intros;refine rV ?_;simp only[push_cast,Nat.reduceBEq]
theorem JS{G:J5}{A:Ka}{l:List Sg}(h:SlA G (SE G) 2 A l):∀ s∈l,I64 s.base:=fun s hs=>by
 obtain⟨i,hi⟩:=List.mem_iff_getElem?.1 hs;obtain⟨a,cs,_,_,⟨_,_,_,_,h⟩,_⟩:=h i s hi;exact h
theorem I5{α:Type}{E:α→J6→Prop}{P:Program}{h:H}{d sz et nb:Nat}{l:J7}{e:Env}{K:Kj}{u:Value}{b:Nat}{zs:List α}{zc cs:J6}{L2:J8}{x:α}(hL:h.L=.row u et sz zs.length zc :: .row (.slice (some ⟨b,0,none⟩) 1 1) et sz 1 cs :: L2)
  (hE:E x cs) (hl:cs.length=sz) (h1:∀ u∈cs,u.oneCell'=true) (hc:Cells E sz zs zc) (hz:zs.length≤1000000) (hnb:nb≤1000)
  (hk:∀ A' c' zc',Cells E sz (zs++[x]) zc'→kR P l d e K (.slice A' (zs++[x]).length c') ⟨h.G,.row (.slice A' (zs++[x]).length c') et sz (zs++[x]).length zc' :: .row (.slice (some ⟨b,0,none⟩) 1 1) et sz 1 cs :: L2,h.D⟩) :
  apX P u (.slice (some ⟨b,0,none⟩) 1 1) et sz nb d l e h K:=by
 refine⟨[],zs.length,zc,.row (.slice (some ⟨b,0,none⟩) 1 1) et sz 1 cs :: L2,1,cs,.inl hL,kX (h:=h) (by rw[hL];exact .tail _ (.head _)) h1 (by rw[hl,Nat.one_mul]),⟨?_,by unfold maxLen;omega⟩,fun A' c'=>?_⟩
 ·have:(zs.length+1) * nb≤1000001 * 1000:=Nat.mul_le_mul (by omega) hnb;omega
 ·have:=hk A' c' (zc++cs) (hc.app (.one hE hl));simp only[length_append,length_cons,List.length_nil,Nat.zero_add]at this;exact this
theorem qh{P:Program}{f:FuncId}{args:Array Value}{h:H}{R:Value→H→Prop}{M:H→Prop}(hE:gX P f)(hg:eD h M)(hc:∀ h',M h'→eh P f args h' R):eh P f args h R :=
 ⟨hE,fun β w hs=>by
  obtain⟨h',m,s1,t1,d1,r1⟩:=hg β w hs
  exact((hc h' m).2 β w s1).mono fun _ _ ⟨v,h2,a,⟨b1,b2⟩,c,d,r⟩=>⟨v,h2,a,⟨b1.trans d1,r1.trans b2⟩,c,t1.trans d,r⟩⟩
theorem BY{a b:Int}(h:mB a b=true):I64 a∧I64 b:=by
 have:=ij.1 h;have h2:=fO.1 this.2;constructor <;> (unfold I64;omega)
theorem BX(limit start:Int)(G:J5):FnD Tryz.prog 46 #[.int .i64 limit,.int .i64 start] G (LgR (qt limit start)):=by
 refine F46.fnD (by simp) (dI ?_);unfold c46;intros;refine gR 0 0 c46r0.eq_1 ?_;intros;refine gR 6 9 c46r1.eq_1 ?_;refine fK (wr _ _ _ _ _) ?_;intros;refine gC ?_;refine gb (fun h=>?_) (fun h=>?_)
 ·have h:mB limit start=false:=by simpa using h
  intros;refine gR 10 11 c46r2.eq_1 ?_;intros;refine rW ?_;rw[qt,h];exact hH
 ·have h:mB limit start=true:=by simpa using h
  have hi:=BY h;intros;refine gN ?_;intros;refine gR 11 17 c46r3.eq_1 ?_;intro b hb;refine sI ?_;intros;try refine dx ?_
  refine ei (dT [] _ (by decide) (Cells.one (E:=SE G) (x:=⟨start,[]⟩) ⟨none,0,rfl,SB.nil,hi.2⟩ rfl)) ?_;rintro h' ⟨G1,rfl,hg1,hv1⟩;intros;refine rW ?_;rw[qt,if_pos h];exact⟨_,rfl,_,1,rfl,hv1.le (.refl _) fun _ _ h=>SE.le hg1 h,hi.1,hi.2⟩
set_option maxHeartbeats 1000000 in
theorem ov(l:Lg)(x:Batch)(cs ds:J6)(G:J5)(hl:LE G l cs)(hb:smL l.segs)(hm:l.segs.length≤1000)(hx:BE G x ds):
  FnD Tryz.prog 69 #[.agg cs.toArray,.agg ds.toArray] G (LgR (gJ l x)):=by
 have hl0:=hl;have hx0:=hx;have hchk:=l8 l cs G hl hb;have hend:=wL l cs G hl hb;have hbc:=ly x ds G hx;have hsz:=CR x ds G hx;obtain⟨A,c,rfl,hsl,hi,hj⟩:=hl;obtain⟨A0,c0,he,hc,hmx,hA⟩:=hsl;cases he;obtain⟨B,d,rfl,-⟩:=hx;refine F69.fnD (by simp) (dI ?_);unfold c69;unfold es at hchk hend hl0 ⊢;unfold eP at hbc hsz hx0 ⊢;intros;refine gR 0 0 c69r0.eq_1 ?_;intros;refine gR 11 13 c69r1.eq_1 ?_
 refine fK (hchk _ _) ?_;intros;refine gR 13 14 c69r2.eq_1 ?_;intros
 refine ez (fun e h=>e 6=.int .i64 (if fq l=0 then fx x else fq l)∧h=⟨G,[.reg 4 [.int .i64 0,.int .i64 0,.slice none 0 0],.reg 3 [.int .i64 x.base,.int .i64 x.last,.int .i64 x.src,.int .i64 x.epoch,.int .i64 x.pid,.int .i64 x.gen,.int .i64 x.seq,.bool x.txn,.int .i64 x.ctl,.slice B x.recs.length d],.reg 2 [.int .i64 l.limit,.int .i64 l.start,.slice A l.segs.length c]],[]⟩) ?_ ?_
 ·intros;refine gC ?_;refine gbD (fun k1=>?_) (fun k1=>?_)
  ·intros;refine gR 15 17 c69r3.eq_1 ?_;refine fK (hbc _ _) ?_;intros;refine dy ?_;have h6:(if fq l=0 then fx x else fq l)=fx x:=if_pos k1;exact ej ⟨(eJ @h6),rfl⟩
  ·intros;refine dy ?_;have h6:(if fq l=0 then fx x else fq l)=fq l:=if_neg k1;exact ej ⟨(eJ @h6),rfl⟩
 rintro e h ⟨e6,rfl⟩;refine dC [6] ?_;refine sJ @e6 ?_;have hno:¬ (fq l=0∧fx x=0)→¬ (if fq l=0 then fx x else fq l)=0:=fun h h2=>by
  by_cases k:fq l=0
  ·rw[if_pos k]at h2;exact h ⟨k,h2⟩
  ·rw[if_neg k]at h2;exact k h2
 have happ:¬ (fq l=0∧fx x=0)→gJ l x=(gy,if fq l=0 then fx x else fq l):=fun h=>by
  unfold gJ;by_cases k:fq l=0
  ·rw[if_pos k,if_pos k,if_neg fun h2=>h ⟨k,h2⟩]
  ·rw[if_neg k,if_neg k]
 have hyes:fq l=0∧fx x=0→(if fq l=0 then fx x else fq l)=0:=fun h=>by rw[if_pos h.1,h.2]
 generalize (if fq l=0 then fx x else fq l)=er at *;intros;intros;refine gR 18 20 c69r4.eq_1 ?_;intros;refine gC ?_;refine gb (fun k1=>?_) (fun k1=>?_)
 ·have k1:=Kn k1;intros;refine gR 20 22 c69r5.eq_1 ?_;intros;refine rW ?_;rw[happ fun h=>k1 (hyes h)];exact hH
 have k1:er=0:=by simpa using k1
 have k2:fq l=0∧fx x=0:=Decidable.not_not.1 fun h=>hno h k1
 clear happ hno hyes;obtain⟨k0,k1⟩:=k2;obtain⟨c1,c2,c3,c4⟩:=fB k0;obtain⟨s,e1,e2,e3,e4,e5⟩:=ky k0;have h0:0 < l.segs.length:=List.length_pos_iff.2 c2;have hz:Dd x=(dK x).length:=by rw[Dd,vp k1]
 rw[hz]at hsz;have hlim:=ij.1 c1;refine sI ?_;intros;refine dy ?_;refine nP _ Kl (by decide) ?_;refine sJ c69r6.eq_1 ?_;refine fK (hend c2 (by omega) _ _) ?_;intros;refine gC ?_;refine gbD (fun k2=>?_) (fun k2=>?_)
 ·intros;refine gR 28 29 c69r7.eq_1 ?_;intros;refine rW ?_;rw[gJ,if_pos k0,if_pos k1,if_pos k2];exact hH
 intros;refine gN ?_;intros;refine dy ?_;refine nP _ Kl (by decide) ?_;refine sJ c69r8.eq_1 ?_;refine fK (hsz _ _) ?_;intros;refine gC ?_;refine gbD (fun k3=>?_) (fun k3=>?_)
 ·intros;refine gR 35 36 c69r9.eq_1 ?_;intros;refine rW ?_;rw[gJ,if_pos k0,if_pos k1,if_neg k2,if_pos k3];exact hH
 intros;refine gN ?_;intros;refine gR 36 38 c69r10.eq_1 ?_;refine fK (xk l A c _ (by omega) _ _) ?_;intros;intros;try refine dx ?_
 intros;try refine dx ?_
 refine ez (fun e h=>∃ (G':J5) (b8:Nat) (A3:Ka) (c3:Nat),(Gle G G'∧SB G' (.slice A3 (jF s x l.limit).1.bytes.length c3) (jF s x l.limit).1.bytes)∧e 7=.int .i64 ((l.segs.length:Int) - 1)∧e 8=.pointer (some ⟨b8,0,none⟩)∧e 9=.int .i64 (jF s x l.limit).2∧h=⟨G',[.blk b8 [.int .i64 (jF s x l.limit).1.base,.slice A3 (jF s x l.limit).1.bytes.length c3],.reg 4 [.int .i64 0,.int .i64 0,.slice none 0 0],.reg 3 [.int .i64 x.base,.int .i64 x.last,.int .i64 x.src,.int .i64 x.epoch,.int .i64 x.pid,.int .i64 x.gen,.int .i64 x.seq,.bool x.txn,.int .i64 x.ctl,.slice B x.recs.length d],.reg 2 [.int .i64 l.limit,.int .i64 l.start,.slice A l.segs.length c]],[]⟩) ?_ ?_
 ·intros;refine dy ?_;refine AY _ Kl (by decide) ?_;refine sJ c69r11.eq_1 ?_;refine hA.y_ld e1 (by omega) rfl ?_;rintro a1 ha1 cs hse;have hapd:=qD s x l.limit cs _ G hse (hb s (mem_of_getElem? e1)) hx0 hi;obtain⟨B1,d1,rfl,hsb,hsi⟩:=hse;unfold ip at hapd ⊢;refine sI ?_;refine⟨?_,?_⟩
  ·refine(mP hapd _ _).mono ?_;rintro r h' ⟨G1,rfl,hg1,A3,c3,rfl,hs1⟩;refine sI ?_;refine⟨j9 hg1,?_⟩;intro b8 hb8;refine⟨dO hg1 (.cons _ Kl),?_⟩;refine sI ?_;refine dM [] _ rfl (Nat.le_refl 2) ⟨rfl,rfl⟩ ?_;refine sI ?_;refine⟨dO hg1 (.cons _ Kl),?_⟩;refine sI ?_;exact ej ⟨G1,b8,A3,c3,⟨hg1,hs1⟩,eE,eE,eE,rfl⟩
  ·intro b8 hb8;refine⟨dO Kp (.cons _ Kl),?_⟩;refine(mP hapd _ _).mono ?_;rintro r h' ⟨G1,rfl,hg1,A3,c3,rfl,hs1⟩;refine sI ?_;refine⟨dO hg1 (.cons _ Kl),?_⟩;refine sI ?_;refine dM [] _ rfl (Nat.le_refl 2) ⟨rfl,rfl⟩ ?_;refine sI ?_;refine⟨dO hg1 (.cons _ Kl),?_⟩;refine sI ?_;exact ej ⟨G1,b8,A3,c3,⟨hg1,hs1⟩,eE,eE,eE,rfl⟩
 rintro e h ⟨G1,b8,A3,c3,⟨hg1,hs1⟩,e7,e8,e9,rfl⟩;refine dC [7,8,9] ?_;refine sJ3 @e7 @e8 @e9 ?_;intros;refine ei js ?_;rintro h' ⟨G2,rfl,hg2,f8⟩;have hs1:=SB.le hs1 hg2;have hg1:=hg1.trans hg2;have ht1:((l.segs.length:Int) - 1).toNat=l.segs.length - 1:=by omega
 intros;refine gR 50 51 c69r12.eq_1 ?_;intros;refine gC ?_;refine gb (fun k4=>?_) (fun k4=>?_)
 ·have k4:(jF s x l.limit).2=0:=Kn k4;have hsl1:SlV G2 (SE G2) 2 (.slice A l.segs.length c) l.segs:=SlSE.le hg1 ⟨A,c,rfl,hc,hmx,hA⟩;have hpre:=SlV.pre (l.segs.length - 1) hsl1 (by omega);have hcl:=m1 (l.segs.take (l.segs.length - 1)) _ G2 hpre (by simp;omega);have hlk:(l.segs.take (l.segs.length - 1)).length=l.segs.length - 1:=by simp
  have hxe:gJ l x=(⟨l.limit,l.start,l.segs.take (l.segs.length - 1)++[(jF s x l.limit).1]⟩,0):=by
   rw[gJ,if_pos k0,if_pos k1,if_neg k2,if_neg k3,e3,if_pos k4]
  have hse2:SE G2 (jF s x l.limit).1 [.int .i64 (jF s x l.limit).1.base,.slice A3 (jF s x l.limit).1.bytes.length c3]:=by
   refine⟨A3,c3,rfl,hs1,?_⟩;obtain⟨-,-,-,-,hh⟩:=xQ k4;rw[hh];exact JS hA s (mem_of_getElem? e1)
  rw[hxe];clear hxe;generalize (jF s x l.limit).1=s' at *;rw[k4];intros;try refine dx ?_
  intros;refine dy ?_;refine AY _ (.cons _ Kl) (by decide) ?_;refine sJ c69r13.eq_1 ?_;refine⟨by omega,?_⟩;refine⟨_,⟨_,[.int .i64 s'.base,.slice A3 s'.bytes.length c3],rfl,rfl,rfl,fun j u hu=>.g (f8 j u hu)⟩,?_⟩;refine sJ @ht1 ?_;refine⟨?_,?_⟩
  ·refine(jd hcl _ _).mono ?_;rintro r h' ⟨G8,L',rfl,hg3,A4,c4,ys,rfl,-,hys,rfl⟩;refine sI ?_;refine⟨dO hg3 (.cons _ (.cons _ Kl)),?_⟩;intro b9 hb9;refine⟨dO hg3 (.cons _ (.cons _ (.cons _ Kl))),?_⟩;refine sI ?_;refine yu (L1:=[]) (L2:=[_,_,_]) (E:=SE G2) (x:=s') rfl hse2 rfl (by simp[Value.oneCell']) hys (by omega) (by omega) fun A' c' zc' hzc'=>?_
   dsimp only;generalize l.segs.take (l.segs.length - 1)++[s']=ZS at *;refine sI ?_;refine⟨dO hg3 (.cons _ (.cons _ (.cons _ Kl))),?_⟩;refine fK (lO _ _ _ _ _ _ _ _ _ _ _) ?_;refine⟨dO hg3 (.cons _ (.cons _ (.cons _ Kl))),?_⟩;refine sI ?_;refine⟨dO hg3 (.cons _ (.cons _ (.cons _ Kl))),?_⟩;refine sI ?_;intros;refine dy ?_;refine ei (dT [_] _ (by decide) hzc') ?_;rintro h' ⟨G9,rfl,hg9,hv9⟩
   intros;refine rW ?_;exact⟨_,rfl,A',c',rfl,hv9.le (.refl _) fun _ _ h=>SE.le (hg3.trans hg9) h,hi,hj⟩
  ·intro b9 hb9;refine⟨dO Kp (.cons _ (.cons _ Kl)),?_⟩;refine(jd hcl _ _).mono ?_;rintro r h' ⟨G8,L',rfl,hg3,A4,c4,ys,rfl,-,hys,rfl⟩;refine sI ?_;refine⟨dO hg3 (.cons _ (.cons _ (.cons _ Kl))),?_⟩;refine sI ?_;refine I5 (L2:=[_,_,_]) (E:=SE G2) (x:=s') rfl hse2 rfl (by simp[Value.oneCell']) hys (by omega) (by omega) fun A' c' zc' hzc'=>?_
   dsimp only;generalize l.segs.take (l.segs.length - 1)++[s']=ZS at *;refine sI ?_;refine⟨dO hg3 (.cons _ (.cons _ (.cons _ Kl))),?_⟩;refine fK (lO _ _ _ _ _ _ _ _ _ _ _) ?_;refine⟨dO hg3 (.cons _ (.cons _ (.cons _ Kl))),?_⟩;refine sI ?_;refine⟨dO hg3 (.cons _ (.cons _ (.cons _ Kl))),?_⟩;refine sI ?_;intros;refine dy ?_;refine ei (dT [] _ (by decide) hzc') ?_;rintro h' ⟨G9,rfl,hg9,hv9⟩
   intros;refine rW ?_;exact⟨_,rfl,A',c',rfl,hv9.le (.refl _) fun _ _ h=>SE.le (hg3.trans hg9) h,hi,hj⟩
 have k4:=Ko k4;clear hs1 f8;intros;refine gN ?_;have hd:decide ((l.segs.length:Int)=256)=decide (l.segs.length=256):=decide_eq_decide.2 (by omega);intros;refine gR2 63 65 c69r14.eq_1 @hd ?_;intros;refine gC ?_;refine gbD (fun k5=>?_) (fun k5=>?_)
 ·intros;refine gR 66 67 c69r15.eq_1 ?_;intros;refine rW ?_;rw[gJ,if_pos k0,if_pos k1,if_neg k2,if_neg k3,e3,if_neg k4,if_pos k5];exact hH
 have hxe:gJ l x=(⟨l.limit,l.start,l.segs++[⟨x.base,dK x⟩]⟩,0):=by
  rw[gJ,if_pos k0,if_pos k1,if_neg k2,if_neg k3,e3,if_neg k4,if_neg k5]
 have hof:=EA (rb c1) k1 (show((dK x).length:Int)≤l.limit by omega);have hxi:I64 x.base:=by obtain⟨_,_,_,_,h,-⟩:=hx0;exact h
 rw[hxe];clear hxe;intros;refine gN ?_;intros;refine gR 67 77 c69r16.eq_1 ?_;intro b9 hb9;refine sI ?_;refine qh F123.enters (dT [] _ (by decide) (Cells.one (E:=BE G2) (x:=x) (BE.le hg1 hx0) rfl)) ?_;rintro h' ⟨G3,rfl,hg3,hv3⟩;refine(GR x.base l.limit [x] _ G3 (hv3.le (.refl _) fun _ _ h=>BE.le hg3 h) hxi hi _ _).mono ?_;rw[hof];rintro r h' ⟨G4,rfl,hg4,A5,c5,rfl,hs5⟩
 have hg14:=hg1.trans (hg3.trans hg4);have hse2:SE G4 ⟨x.base,dK x⟩ [.int .i64 x.base,.slice A5 (dK x).length c5]:=⟨A5,c5,rfl,hs5,hxi⟩;have hse2:SE G4 ⟨x.base,dK x⟩ [.int .i64 (⟨x.base,dK x⟩:Sg).base,.slice A5 (⟨x.base,dK x⟩:Sg).bytes.length c5]:=hse2;generalize (⟨x.base,dK x⟩:Sg)=s' at *;refine sI ?_;intros;refine gR 77 78 c69r17.eq_1 ?_;have hz0:decide ((0:Int)≠0)=false:=by decide
 refine sJ @hz0 ?_;intros;refine gC ?_;intros;refine gN ?_;have hsl1:SlV G4 (SE G4) 2 (.slice A l.segs.length c) l.segs:=SlSE.le hg14 ⟨A,c,rfl,hc,hmx,hA⟩;have hcl:=m1 l.segs _ G4 hsl1 (by omega);have hs5:SB G4 (.slice A5 s'.bytes.length c5) s'.bytes:=hs5;intros;refine dy ?_;refine AY _ (.cons_cons _ (.cons _ Kl)) (by decide) ?_;refine sJ c69r19.eq_1 ?_;refine⟨?_,?_⟩
 ·refine(jd hcl _ _).mono ?_;rintro r h' ⟨G8,L',rfl,hg3,A4,c4,ys,rfl,-,hys,rfl⟩;refine sI ?_;refine⟨dO hg3 (.cons _ (.cons_cons _ (.cons _ Kl))),?_⟩;intro b9 hb9;refine⟨dO hg3 (.cons _ (.cons _ (.cons_cons _ (.cons _ Kl)))),?_⟩;refine sI ?_;refine yu (L1:=[]) (L2:=[_,_,_,_]) (E:=SE G4) (x:=s') rfl hse2 rfl (by simp[Value.oneCell']) hys (by omega) (by omega) fun A' c' zc' hzc'=>?_
  dsimp only;generalize l.segs++[s']=ZS at *;refine sI ?_;refine⟨dO hg3 (.cons _ (.cons _ (.cons_cons _ (.cons _ Kl)))),?_⟩;refine fK (lO _ _ _ _ _ _ _ _ _ _ _) ?_;refine⟨dO hg3 (.cons _ (.cons _ (.cons_cons _ (.cons _ Kl)))),?_⟩;refine sI ?_;refine⟨dO hg3 (.cons _ (.cons _ (.cons_cons _ (.cons _ Kl)))),?_⟩;refine sI ?_;intros;refine dy ?_;refine ei (dT [_] _ (by decide) hzc') ?_
  rintro h' ⟨G9,rfl,hg9,hv9⟩;intros;refine rW ?_;exact⟨_,rfl,A',c',rfl,hv9.le (.refl _) fun _ _ h=>SE.le (hg3.trans hg9) h,hi,hj⟩
 ·intro b9 hb9;refine⟨dO Kp (.cons _ (.cons_cons _ (.cons _ Kl))),?_⟩;refine(jd hcl _ _).mono ?_;rintro r h' ⟨G8,L',rfl,hg3,A4,c4,ys,rfl,-,hys,rfl⟩;refine sI ?_;refine⟨dO hg3 (.cons _ (.cons _ (.cons_cons _ (.cons _ Kl)))),?_⟩;refine sI ?_;refine I5 (L2:=[_,_,_,_]) (E:=SE G4) (x:=s') rfl hse2 rfl (by simp[Value.oneCell']) hys (by omega) (by omega) fun A' c' zc' hzc'=>?_
  dsimp only;generalize l.segs++[s']=ZS at *;refine sI ?_;refine⟨dO hg3 (.cons _ (.cons _ (.cons_cons _ (.cons _ Kl)))),?_⟩;refine fK (lO _ _ _ _ _ _ _ _ _ _ _) ?_;refine⟨dO hg3 (.cons _ (.cons _ (.cons_cons _ (.cons _ Kl)))),?_⟩;refine sI ?_;refine⟨dO hg3 (.cons _ (.cons _ (.cons_cons _ (.cons _ Kl)))),?_⟩;refine sI ?_;intros;refine dy ?_;refine ei (dT [] _ (by decide) hzc') ?_
  rintro h' ⟨G9,rfl,hg9,hv9⟩;intros;refine rW ?_;exact⟨_,rfl,A',c',rfl,hv9.le (.refl _) fun _ _ h=>SE.le (hg3.trans hg9) h,hi,hj⟩
theorem F76:Fun Tryz.prog 76 6 v76 c76 o76:=Fun.mkA Tryz.func76 Tryz.ntmps76
theorem F130:Fun Tryz.prog 130 40 v130 c130 o130:=Fun.mkA Tryz.func130 Tryz.ntmps130
theorem F129:Fun Tryz.prog 129 13 v129 c129 o129:=Fun.mkA Tryz.func129 Tryz.ntmps129
theorem F75:Fun Tryz.prog 75 5 v75 c75 o75:=Fun.mkA Tryz.func75 Tryz.ntmps75
theorem F27:Fun Tryz.prog 27 11 v27 c27 o27:=Fun.mkA Tryz.func27 Tryz.ntmps27
def EBx(G:J5)(x:Batch)(args:Array Value):Prop:=∃ cs,BE G x cs∧args=#[.agg cs.toArray]
theorem zH{l:List Sg}{k:Nat}{s:Sg}(h:l[k]?=some s):bsS (l.take (k+1))=bsS (l.take k)++ef s:=by
 rw[eo h,iy,fJ,jH,append_nil]
theorem x3(off:Int)(x:Batch):fM off [x]=if off≤x.last then[x]else[]:=by
 unfold fM;by_cases h:off≤x.last <;> simp[h]
theorem zj{off:Int}{l:List Sg}{k j:Nat}{s:Sg}{x:Batch}(hs:l[k]?=some s)(hx:(ef s)[j]?=some x)(hf:off≤x.last):
  (fM off (bsS l))[(fM off (bsS (l.take k))).length+(fM off ((ef s).take j)).length]?=some x:=by
 have e1:bsS l=bsS (l.take k)++(((ef s).take j++x :: (ef s).drop (j+1))++bsS (l.drop (k+1))):=by
  rw[← jI hx,← fJ,← iy,← jI hs]
 have e2:fM off (x :: (ef s).drop (j+1))=x :: fM off ((ef s).drop (j+1)):=by
  unfold fM;rw[List.filter_cons,if_pos (by simp[hf])]
 rw[e1,iL,iL,iL,e2];simp
set_option maxHeartbeats 1000000 in
theorem pu(l:Lg)(off:Int)(A:Ka)(c b1 b2:Nat)(G0:J5)(hl:SlV G0 (SE G0) 2 (.slice A l.segs.length c) l.segs)(hb:smL l.segs)(h1:eZ G0 ⟨b1,2,none⟩=some (.slice A l.segs.length c))(h2:eZ G0 ⟨b2,0,none⟩=some (.int .i64 off)):
  kC Tryz.prog 130 #[.pointer (some ⟨b1,0,none⟩),.pointer (some ⟨b2,0,none⟩)] (fM off (bsS l.segs)) EBx G0:=by
 intro yl I Ix G L hG hn hI hIx hmo hi0 hy L2 D;have hargs:(#[.func (.yield yl) #[] #[]]++#[.pointer (some ⟨b1,0,none⟩),.pointer (some ⟨b2,0,none⟩)]:Array Value)=#[.func (.yield yl) #[] #[],.pointer (some ⟨b1,0,none⟩),.pointer (some ⟨b2,0,none⟩)]:=rfl;rw[hargs];have hat:=fun k j s x=>@zj off l.segs k j s x
 have htot:(fM off (bsS (l.segs.take l.segs.length))).length=(fM off (bsS l.segs)).length:=by rw[take_length]
 generalize fM off (bsS l.segs)=T at *;refine(F130.calls (R:=fun _ h=>Gle G h.G∧(I T.length h.G h.L∨∃ i,i < T.length∧Ix i h.G h.L)) (by simp) hn (dI ?_) L2 D).mono ?_;rotate_left
 ·rintro v h' ⟨G',L',rfl,hn',hgg,hr⟩;exact⟨G',L',rfl,hgg,hn',hr⟩
 have e1:=dN hG h1;have e2:=dN hG h2;have hlG:=SlSE.le hG hl;obtain⟨A0,c0,he,hc,hmx,hA⟩:=id hlG;cases he;unfold c130;intros;refine gR 10 11 c130r0.eq_1 ?_;refine⟨_,⟨_,rfl,.g e1⟩,?_⟩;refine sI ?_;intros;refine dy ?_
 refine dV (fun e h=>∃ (k:Nat) (G':J5) (L' Lh:J8),(k≤l.segs.length∧Gle G G'∧dR L'∧I (fM off (bsS (l.segs.take k))).length G' L')∧e 13=.int .i64 k∧e 12=.int .i64 l.segs.length∧e 11=.slice A l.segs.length c∧e 0=.func (.yield yl) #[] #[]∧e 2=.pointer (some ⟨b2,0,none⟩)∧h=⟨G',Lh,[]⟩∧L'.Sublist Lh) (fun e h=>l.segs.length - iv (e 13)) ?_ ?_
 ·exact⟨0,G,L,L,⟨Nat.zero_le _,.refl G,hn,hi0⟩,eE,eE,eE,eE,eE,rfl,List.Sublist.refl _⟩
 rintro e h ⟨k,G',L',Lh,⟨hk,hgg,hn',hI'⟩,e13,e12,e11,e00,e22,rfl,hsub⟩;refine dC [0,2,11,12,13] ?_;refine sJ5 @e00 @e22 @e11 @e12 @e13 ?_;intros;refine dA (dE hsub) ?_;have hrm5:=mg (s:=5) hn';intros;refine gR 0 0 c130r1.eq_1 ?_;intros;refine gC ?_;refine gb (fun ht=>?_) (fun ht=>?_)
 ·have ht:k < l.segs.length:=by have:=Kn ht;omega
  have hw:=fi k c (by omega) hmx;obtain⟨s,hs⟩:∃ s,l.segs[k]?=some s:=⟨l.segs[k],getElem?_eq_getElem (by omega)⟩;have hbs:=hb s (mem_of_getElem? hs);have hlG':=SlSE.le hgg hlG;obtain⟨A0,c0,he,-,-,hA'⟩:=hlG';cases he;intros;refine gN ?_;intros;refine gR 15 17 c130r2.eq_1 ?_;refine hA'.x_ld hs rfl rfl ?_;rintro a1 ha1 cs hse;have hscan:=pt s cs G' hse (by omega);obtain⟨B,d,rfl,hsb,hsi⟩:=hse
  unfold ip at hscan ⊢;refine sJ @hrm5 ?_;intros;refine gR 17 22 c130r3.eq_1 ?_;refine(hscan _ _).mono ?_;rintro r h' ⟨G1,L1,rfl,hg1,u,zc,rfl,hzc,rfl⟩;refine sI ?_;intros;try refine dx ?_
  refine ei (dT [] _ (by decide) hzc) ?_;rintro h' ⟨G2,rfl,hg2,hv2⟩;have hv2:SlV G2 (BE G2) 10 u (ef s):=hv2.le (.refl _) fun _ _ h=>BE.le hg2 h
  have hbt:=zH hs;have hat':=fun j x=>hat k j s x hs
  obtain⟨rr,hsc⟩:=eG s;have hlen:=hsc.len;generalize ef s=bs at *;obtain⟨A2,c2,rfl,hc2,hm2,hA2⟩:=hv2;have hgg2:=hgg.trans (hg1.trans hg2);have hI2:=hmo _ _ _ _ (hg1.trans hg2) hI';intros;refine gR 0 0 c130r4.eq_1 ?_;intros
  refine ez (fun e h=>∃ (G':J5) (L' Lh:J8),(Gle G G'∧dR L'∧I (fM off (bsS (l.segs.take (k+1)))).length G' L')∧e 13=.int .i64 k∧e 12=.int .i64 l.segs.length∧e 11=.slice A l.segs.length c∧e 0=.func (.yield yl) #[] #[]∧e 2=.pointer (some ⟨b2,0,none⟩)∧h=⟨G',Lh,[]⟩∧L'.Sublist Lh) ?_ ?_
  ·intros;refine dy ?_
   refine dV (fun e h=>∃ (j:Nat) (G':J5) (L' Lh:J8),(j≤bs.length∧Gle G2 G'∧dR L'∧I ((fM off (bsS (l.segs.take k))).length+(fM off (bs.take j)).length) G' L')∧e 24=.int .i64 j∧e 23=.int .i64 bs.length∧e 22=.slice A2 bs.length c2∧e 13=.int .i64 k∧e 12=.int .i64 l.segs.length∧e 11=.slice A l.segs.length c∧e 0=.func (.yield yl) #[] #[]∧e 2=.pointer (some ⟨b2,0,none⟩)∧h=⟨G',Lh,[]⟩∧L'.Sublist Lh) (fun e h=>bs.length - iv (e 24)) ?_ ?_
   ·exact⟨0,G2,L',_,⟨Nat.zero_le _,.refl _,hn',hI2⟩,eE,eE,eE,eE,eE,eE,eE,eE,rfl,.cons _ Kl⟩
   rintro e h ⟨j,G3,L3,Lh,⟨hj,hg3,hn3,hI3⟩,e24,e23,e22',e13,e12,e11,e00,e22,rfl,hsub⟩;refine dC [0,2,11,12,13,22,23,24] ?_
   (try simp -implicitDefEqProofs only[nG,nH,push_cast,Nat.reduceBEq,Nat.reduceAdd,Nat.reduceSub,Nat.reduceMul,Nat.reduceLT,Nat.reduceLeDiff,Nat.reduceEqDiff,reduceIte,Bool.not_true,Bool.not_false,true_and,and_true,Option.map_some,Option.bind_some,Int.toNat_natCast,e00,e22,e11,e12,e13,e22',e23,e24])
   intros;refine dA (dE hsub) ?_;have hrm9:=mg (s:=9) hn3;have e2':=dN (hgg2.trans hg3) e2;intros;refine gR 0 0 c130r5.eq_1 ?_;intros;refine gC ?_;refine gb (fun ht2=>?_) (fun ht2=>?_)
   ·have ht2:j < bs.length:=by have:=Kn ht2;omega
    have hw2:=fi j c2 (by omega) hm2;obtain⟨x,hx⟩:∃ x,bs[j]?=some x:=⟨bs[j],getElem?_eq_getElem (by omega)⟩;have hA3:=hA2.le hg3 (E':=BE G3) fun _ _ h=>BE.le hg3 h
    have hrt:fM off (bs.take (j+1))=fM off (bs.take j)++(if off≤x.last then[x]else[]):=by rw[eo hx,iL,x3]
    intros;refine gN ?_;intros;refine gR 26 28 c130r6.eq_1 ?_;refine hA3.x_ld hx rfl rfl ?_;rintro a3 ha3 cs hbe;have hbe0:=hbe;obtain⟨B3,d3,rfl,-⟩:=hbe;unfold eP at hbe0 ⊢;refine sJ @hrm9 ?_;intros;refine gR 29 37 c130r7.eq_1 ?_;refine⟨_,⟨_,rfl,.g e2'⟩,?_⟩;refine sI ?_;refine gdD (fun k1=>?_) (fun k1=>?_)
    ·rw[if_pos k1]at hrt;have hlen2:(fM off (bsS (l.segs.take k))).length+(fM off (bs.take j)).length+1=(fM off (bsS (l.segs.take k))).length+(fM off (bs.take (j+1))).length:=by rw[hrt,length_append];rfl
     have hxT:=hat' j x hx k1;refine sI ?_;refine .inr ⟨yl,rfl,?_⟩;refine iW.ghost (ee (List.perm_append_comm (l₁:=[_]))) ?_;refine(hy _ x _ G3 L3 hxT (hgg2.trans hg3) ⟨_,hbe0,rfl⟩ hI3 [_] []).mono ?_;rintro v h' ⟨G4,L4,rfl,hg4,hn4,hr⟩;rcases hr with⟨rfl,hr⟩ | ⟨rfl,hr⟩
     ·refine sI ?_;intros;refine gC ?_;refine dA (dE (List.sublist_append_left _ _)) ?_;intros;refine gR2 38 39 c130r8.eq_1 @hw2 ?_;intros;refine dy ?_;rw[hlen2]at hr;refine ej ⟨⟨j+1,G4,L4,_,⟨by omega,hg3.trans hg4,hn4,hr⟩,eE,eE,eE,eE,eE,eE,eE,eE,rfl,List.Sublist.refl _⟩,?_⟩;refine sI ?_;omega
     ·refine sI ?_;intros;refine gC ?_;intros;refine dy ?_;refine dG (dL L4 rfl (List.sublist_append_left _ _) hn4 ?_);exact⟨hgg2.trans (hg3.trans hg4),.inr ⟨_,(List.getElem?_eq_some_iff.1 hxT).1,hr⟩⟩
    ·rw[if_neg k1,append_nil]at hrt;refine sI ?_;intros;refine gC ?_;refine dA (dE (L':=L3) (.cons _ Kl)) ?_;intros;refine gR2 38 39 c130r8.eq_1 @hw2 ?_;intros;refine dy ?_;refine ej ⟨⟨j+1,G3,L3,_,⟨by omega,hg3,hn3,by rw[hrt];exact hI3⟩,eE,eE,eE,eE,eE,eE,eE,eE,rfl,List.Sublist.refl _⟩,?_⟩;refine sI ?_;omega
   ·have ht2:j=bs.length:=by have:=Ko ht2;omega
    subst ht2;rw[take_length]at hI3;refine dS ?_;refine sI ?_;intros;refine gN ?_;exact ej ⟨G3,L3,_,⟨hgg2.trans hg3,hn3,by rw[hbt,iL,length_append];exact hI3⟩,eE,eE,eE,eE,eE,rfl,List.Sublist.refl _⟩
  rintro e h ⟨G3,L3,Lh,⟨hg3,hn3,hI3⟩,e13,e12,e11,e00,e22,rfl,hsub⟩;refine dC [0,2,11,12,13] ?_;refine sJ5 @e00 @e22 @e11 @e12 @e13 ?_;intros;refine dA (dE hsub) ?_;intros;refine gR2 39 40 c130r9.eq_1 @hw ?_;intros;refine dy ?_;refine ej ⟨⟨k+1,G3,L3,_,⟨by omega,hg3,hn3,hI3⟩,eE,eE,eE,eE,eE,rfl,List.Sublist.refl _⟩,?_⟩;refine sI ?_;omega
 ·have ht:k=l.segs.length:=by have:=Ko ht;omega
  subst ht;rw[htot]at hI';refine dS ?_;refine sI ?_;intros;refine dy ?_;refine fU ?_;exact⟨[],rfl,⟨G',L',[]⟩,dE Kl,hn',hgg,.inl hI'⟩
theorem uB(l:Lg)(off:Int)(cs:J6)(G:J5)(hl:LE G l cs)(hb:smL l.segs):
  FnD Tryz.prog 76 #[.agg cs.toArray,.int .i64 off] G (fun G' r=>∃ b1 b2,r=.func (.func 130) #[] #[.pointer (some ⟨b1,0,none⟩),.pointer (some ⟨b2,0,none⟩)]∧kC Tryz.prog 130 #[.pointer (some ⟨b1,0,none⟩),.pointer (some ⟨b2,0,none⟩)] (fM off (bsS l.segs)) EBx G'):=by
 obtain⟨A,c,rfl,hsl,hi,hj⟩:=hl;refine F76.fnD (by simp) (dI ?_);unfold c76 es;intros;refine gR 0 0 c76r0.eq_1 ?_;intro b1 hb1 b2 hb2;intros;refine dy ?_;refine ei js ?_;rintro h' ⟨G1,rfl,hg1,f2⟩;refine ei js ?_;rintro h' ⟨G2,rfl,hg2,f1⟩;have e1:=f1 2 _ rfl;have e2:=dN hg2 (f2 0 _ rfl);rw[eA]at e1 e2;intros;refine gR 5 6 c76r1.eq_1 ?_;intros;refine rW ?_
 exact⟨b1,b2,rfl,pu l off A c b1 b2 G2 (SlSE.le (hg1.trans hg2) hsl) hb e1 e2⟩
theorem pS(T:Kg)(gf:Nat)(cap:Array Value)(G:J5)(hit:kC Tryz.prog gf cap T EBx G)(hEn:gX Tryz.prog gf)(hT:T.length≤1000000):
  FnO Tryz.prog 129 #[.slice none 0 0,.func (.func gf) #[] cap] G [] (fun G' L' r=>yv (BE G') 43 10 T L' r):=by
 refine F129.fnO (by simp) dw (dI ?_);unfold c129;intros;refine gR 0 0 c129r0.eq_1 ?_;intro b2 hb2;intros;refine gR 0 0 c129r1.eq_1 ?_;intros;refine dy ?_;refine dA (dW none 43 10) ?_;refine rA (α:=Batch) (fun k G' L'=>∃ u zc,L'=[.row u 43 10 (T.take k).length zc,.blk b2 [u]]∧Cells (BE G') 10 (T.take k) zc) (fun _ _ _ _=>False) (eE) hEn (dz (dF dw))
  (fun i G G' L hg ⟨u,zc,h1,h2⟩=>⟨u,zc,h1,eN h2 fun _ _ h=>BE.le hg h⟩) hit (fun G x args h=>by obtain⟨_,_,rfl⟩:=h;rfl) ⟨_,[],rfl,.nil⟩ ?_ ?_ ?_
 ·rintro yl k x args G' L' hx hgl ⟨cs,hbe,rfl⟩ ⟨u,zc,rfl,hzc⟩ _;have hkl:k < T.length:=(List.getElem?_eq_some_iff.1 hx).1;have hbe0:=hbe;obtain⟨B,d,rfl,-⟩:=hbe;unfold eP at hbe0 ⊢;refine sI ?_;intros;refine gR 0 0 c129r2.eq_1 ?_;intro bb;refine fU (rX ?_);have htk:T.take (k+1)=T.take k++[x]:=eo hx;have hkl2:(T.take k).length≤T.length:=by rw[List.length_take];omega
  have hkl3:(T.take k).length=k:=by rw[List.length_take];omega
  intros;refine gR 8 12 c129r3.eq_1 ?_;refine⟨_,dH (.tail _ (.tail _ (.head _))) rfl,?_⟩;refine sI ?_;intro bk hbk;refine yu (L1:=[_]) (L2:=[_]) (E:=BE G') (x:=x) rfl hbe0 rfl (by simp[Value.oneCell']) hzc (by omega) (by omega) fun A' c' zc' hzc'=>?_
  rw[← htk]at hzc' ⊢;refine sI ?_;refine dM [_,_,_] [] rfl (by simp) ⟨rfl,rfl⟩ ?_;refine sI ?_;intros;refine dy ?_;refine fU (qf _ (.cons _ (.cons _ Kl)) (dz (dF dw)) ⟨_,zc',rfl,hzc'⟩)
 ·rintro G' L' dd hgl ⟨u,zc,rfl,hzc⟩ _;rw[take_length]at hzc ⊢;refine kl ?_;intros;refine gR 12 13 c129r4.eq_1 ?_;refine⟨_,dH (.tail _ (.head _)) rfl,?_⟩;refine sI ?_;intros;refine dy ?_;refine dG (dL _ rfl (.cons_cons _ Km) (dz dw) ?_);exact⟨zc,hzc,rfl⟩
 ·rintro ex i G' L' d _ _ h;exact h.elim
theorem uq(T:Kg)(gf:Nat)(cap:Array Value)(G:J5)(hit:kC Tryz.prog gf cap T EBx G)(hEn:gX Tryz.prog gf)(hT:T.length≤1000000):
  FnO Tryz.prog 75 #[.func (.func gf) #[] cap] G [] (fun G' L' r=>yv (BE G') 43 10 T L' r):=by
 refine F75.fnO (by simp) dw (dI ?_);unfold c75;intros;refine gR 0 0 c75r0.eq_1 ?_;intros;refine gR 3 5 c75r1.eq_1 ?_;refine(pS T gf cap G hit hEn hT _ _).mono ?_;rintro r h' ⟨G1,L',rfl,hg1,zc,hzc,rfl⟩;refine sI ?_;intros;refine dy ?_;refine dG (dL _ rfl Kl (dz dw) ?_);exact⟨zc,hzc,rfl⟩
theorem Af(l:Kg):9 * l.length≤(ft l).length:=by
 induction l with
 | nil=>simp
 | cons x l ih =>
  have:=gM x;rw[fm,length_append,length_cons];omega
theorem CV{l:Lg}(h:fq l=0):(ft (bsS l.segs)).length≤1048576:=by
 obtain⟨h1,h2,h3,h4⟩:=fB h;have h5:=(ij.1 h1).1.2;have h6:=vy h3;have h7:=vJ h3;have h9:l.limit * (l.segs.length:Int)≤4096 * 256:=Int.mul_le_mul h5 (by omega) (by omega) (by omega);omega
theorem xa{l:Lg}(off:Int)(h:fq l=0):(ft (fM off (bsS l.segs))).length≤1048576∧(fM off (bsS l.segs)).length≤1000000:=by
 have h1:=CV h;have h2:=xd off (bsS l.segs);have h3:=Af (fM off (bsS l.segs));omega
theorem sY(l:Lg)(cs:J6)(G:J5)(hl:LE G l cs)(hb:smL l.segs):FnD Tryz.prog 27 #[.agg cs.toArray] G (fun G' r=>SlV G' (BE G') 10 r (gz l)):=by
 have hl0:=hl;have hchk:=l8 l cs G hl hb;obtain⟨A,c,rfl,hsl,hi,hj⟩:=hl;refine F27.fnD (by simp) (dI ?_);unfold c27;unfold es at hchk hl0 ⊢;intros;refine gR 0 0 c27r0.eq_1 ?_;intros;refine gR 3 5 c27r1.eq_1 ?_;refine fK (hchk _ _) ?_;intros;refine gC ?_;refine gb (fun k1=>?_) (fun k1=>?_)
 ·have k1:=Kn k1;intros;refine gR 0 0 c27r2.eq_1 ?_;intros;refine rW ?_;rw[gz,if_neg k1];exact slN
 have k1:fq l=0:=by simpa using k1
 intros;refine gN ?_;intros;refine gR 6 11 c27r3.eq_1 ?_;refine(uB l l.start _ G hl0 hb _ _).mono ?_;rintro r h' ⟨G1,rfl,hg1,b1,b2,rfl,hit⟩;refine sI ?_;refine(uq _ _ _ G1 hit F130.enters (xa _ k1).2 _ _).mono ?_;rintro r h' ⟨G2,L',rfl,hg2,zc,hzc,rfl⟩;refine sI ?_;intros;try refine dx ?_
 refine ei (dT [] _ (by decide) hzc) ?_;rintro h' ⟨G3,rfl,hg3,hv3⟩;intros;refine rW ?_;rw[gz,if_pos k1];exact hv3.le (.refl _) fun _ _ h=>BE.le hg3 h
theorem F188:Fun Tryz.prog 188 22 v188 c188 o188:=Fun.mkA Tryz.func188 Tryz.ntmps188
theorem F189:Fun Tryz.prog 189 33 v189 c189 o189:=Fun.mkA Tryz.func189 Tryz.ntmps189
theorem F167:Fun Tryz.prog 167 12 v167 c167 o167:=Fun.mkA Tryz.func167 Tryz.ntmps167
def Gu(l:Lg)(off:Int)(p:Lg):Lg × Int:=if fq l=0 then if uW l off=true then(p,0)else(gy,90)else(gy,fq l)
def LgV(p:Lg)(G:J5)(r:Value):Prop:=∃ cs,r=.agg cs.toArray∧LE G p cs
theorem Fy(l:Lg)(off:Int)(f:Nat)(cap:Array Value)(p:Lg)(cs:J6)(G:J5)(hl:LE G l cs)(hb:smL l.segs)(hm:l.segs.length≤1000000)
  (hf:fq l=0→uW l off=true→FnD Tryz.prog f cap G (LgV p)) :
  FnD Tryz.prog 188 #[.agg cs.toArray,.int .i64 off,.func (.func f) #[] cap] G (LgR (Gu l off p)):=by
 have hl0:=hl;have hchk:=l8 l cs G hl hb;have hbt:=tW l off cs G hl hb;obtain⟨A,c,rfl,hsl,hi,hj⟩:=hl;refine F188.fnD (by simp) (dI ?_);unfold c188;unfold es at hchk hbt hl0 ⊢;intros;refine gR 0 0 c188r0.eq_1 ?_;intros;refine gR 9 11 c188r1.eq_1 ?_;refine fK (hchk _ _) ?_;intros;refine gR 11 12 c188r2.eq_1 ?_;intros;refine gC ?_;refine gb (fun k1=>?_) (fun k1=>?_)
 ·have k1:=Kn k1;intros;refine gR 13 15 c188r3.eq_1 ?_;intros;refine rW ?_;rw[Gu,if_neg k1];exact hH
 have k1:fq l=0:=by simpa using k1
 obtain⟨c1,c2,c3,c4⟩:=fB k1;intros;refine gN ?_;intros;refine gR 15 18 c188r4.eq_1 ?_;refine fK (hbt c2 hm _ _) ?_;intros;refine gC ?_;refine gb (fun k2=>?_) (fun k2=>?_)
 ·have k2:uW l off=false:=by simpa using k2
  intros;refine gR 19 20 c188r5.eq_1 ?_;intros;refine rW ?_;rw[Gu,if_pos k1,if_neg (by rw[k2];simp)];exact hH
 have k2:uW l off=true:=by simpa using k2
 intros;refine gN ?_;intros;refine gR 20 22 c188r6.eq_1 ?_;refine .inl ⟨f,cap,rfl,?_⟩;rw[show(#[]++cap:Array Value)=cap by simp];refine(hf k1 k2 _ _).mono ?_;rintro r h' ⟨G1,rfl,hg1,cs,rfl,hle⟩;obtain⟨A1,c1,rfl,hs1⟩:=hle;unfold es;refine sI ?_;intros;refine rW ?_;rw[Gu,if_pos k1,if_pos k2];exact⟨_,rfl,A1,c1,rfl,hs1⟩
def fS{α:Type}(p:α→Bool):List α→Nat→Int
 | [],_=>-1
 | x :: l,i=>if p x=true then(i:Int)else fS p l (i+1)
theorem ng{α:Type}{p:α→Bool}{l:List α}{k:Nat}{x:α}(h:l[k]?=some x)(i:Nat):fS p (l.drop k) i=if p x=true then(i:Int)else fS p (l.drop (k+1)) (i+1):=by
 obtain⟨h1,h2⟩:=List.getElem?_eq_some_iff.1 h;rw[List.drop_eq_getElem_cons h1,h2,fS]
theorem DN{P:Program}{f:FuncId}{args:Array Value}{G:J5}{s:Sg}(hf:FnO P f args G [] (fun _ L' r=>vT s L' r)):FnD P f args G (fun G' r=>∃ A c,r=.agg #[.int .i64 s.base,.slice A s.bytes.length c]∧SB G' (.slice A s.bytes.length c) s.bytes) :=
 FnO.fnD (L1:=[]) (oT hf) fun G' L' v ⟨A,c,zc,h1,_,h2,h3⟩ _ L D=>by
  subst h2;exact(kF (by decide) h3).mono fun h' ⟨G2,e1,e2,e3⟩=>⟨G2,e1,e2,A,c,h1,e3⟩
theorem vj{l:List Sg}{k:Nat}{s:Sg}(to:Int)(h:l[k]?=some s):jT (l.take (k+1)) to=jT (l.take k) to++if s.base < to then[pE s to]else[]:=by
 unfold jT;rw[eo h,List.filter_append,List.map_append];congr 1;by_cases hh:s.base < to <;> simp[hh]
theorem py(l:List Sg)(to:Int):(jT l to).length≤l.length:=by
 unfold jT;rw[List.length_map];exact List.length_filter_le _ _
theorem qd(l:Lg)(to:Int)(A:Ka)(c b2 b3:Nat)(G:J5)(hsl:SlV G (SE G) 2 (.slice A l.segs.length c) l.segs)(hi:I64 l.limit)(hj:I64 l.start)(hb:smL l.segs)(hm:l.segs.length≤1000)(hto:I64 to)
  (h2:∀ j u,([.int .i64 l.limit,.int .i64 l.start,.slice A l.segs.length c]:J6)[j]?=some u→eZ G (Addr.add ⟨b2,0,none⟩ j)=some u) (h3:eZ G ⟨b3,0,none⟩=some (.int .i64 to)) :
  FnD Tryz.prog 189 #[.pointer (some ⟨b2,0,none⟩),.pointer (some ⟨b3,0,none⟩)] G (LgV ⟨l.limit,l.start,nQ l.segs to⟩):=by
 have hsl0:=hsl;have h22:=h2 2 _ rfl;rw[eA]at h22;obtain⟨A0,c0,he,hc,hmx,hA⟩:=hsl;cases he;refine F189.fnD (by simp) (dI ?_);unfold c189;intros;refine gR 0 0 c189r0.eq_1 ?_;intros;refine gR 0 0 c189r1.eq_1 ?_;intros;refine gR 6 7 c189r2.eq_1 ?_;refine⟨_,⟨_,rfl,.g h22⟩,?_⟩;refine sI ?_;intros;refine dA (dW none 120 2) ?_
 refine ez (fun e h=>∃ (G':J5) (u:Value) (zc:J6),(Gle G G'∧Cells (SE G') 2 (jT l.segs to) zc)∧e 3=u∧e 0=.pointer (some ⟨b2,0,none⟩)∧e 1=.pointer (some ⟨b3,0,none⟩)∧h=⟨G',[.row u 120 2 (jT l.segs to).length zc,.reg 2 [.int .i64 0,.int .i64 0,.slice none 0 0]],[]⟩) ?_ ?_
 ·intros;refine dy ?_
  refine dV (fun e h=>∃ (k:Nat) (G':J5) (u:Value) (zc:J6),(k≤l.segs.length∧Gle G G'∧Cells (SE G') 2 (jT (l.segs.take k) to) zc)∧e 9=.int .i64 k∧e 8=.int .i64 l.segs.length∧e 7=.slice A l.segs.length c∧e 3=u∧e 0=.pointer (some ⟨b2,0,none⟩)∧e 1=.pointer (some ⟨b3,0,none⟩)∧h=⟨G',[.row u 120 2 (jT (l.segs.take k) to).length zc,.reg 2 [.int .i64 0,.int .i64 0,.slice none 0 0]],[]⟩) (fun e h=>l.segs.length - iv (e 9)) ?_ ?_
  ·exact⟨0,G,.slice none 0 0,[],⟨Nat.zero_le _,.refl _,.nil⟩,eE,eE,eE,eE,eE,eE,rfl⟩
  rintro e h ⟨k,G',u,zc,⟨hk,hg',hzc⟩,e9,e8,e7,e3,e0,e1,rfl⟩;refine dC [0,1,3,7,8,9] ?_;refine sJ6 @e0 @e1 @e3 @e7 @e8 @e9 ?_;intros;refine gR 0 0 c189r3.eq_1 ?_;intros;refine gC ?_;refine gb (fun ht=>?_) (fun ht=>?_)
  ·have ht:k < l.segs.length:=by have:=Kn ht;omega
   have hw:=fi k c (by omega) hmx;obtain⟨s,hs⟩:∃ s,l.segs[k]?=some s:=⟨l.segs[k],getElem?_eq_getElem (by omega)⟩;have hbs:=hb s (mem_of_getElem? hs);have htr:=vj to hs;have hA':=hA.le hg' (E':=SE G') fun _ _ h=>SE.le hg' h
   have h3':=dN hg' h3;have hlen:=py (l.segs.take k) to;rw[List.length_take]at hlen;intros;refine gN ?_;intros;refine gR 11 13 c189r4.eq_1 ?_;refine hA'.x_ld hs rfl rfl ?_;rintro a1 ha1 cs hse;have hcut:=DN (FG s to cs G' hse (by omega) hto);obtain⟨B,d,rfl,hsb,hsi⟩:=hse;unfold ip at hcut ⊢;refine sI ?_;intros;refine gR 14 16 c189r5.eq_1 ?_;refine⟨_,⟨_,rfl,.g h3'⟩,?_⟩;refine sI ?_
   intros;refine gC ?_;refine gbD (fun k1=>?_) (fun k1=>?_)
   ·rw[if_pos k1]at htr;intros;refine gR 17 23 c189r6.eq_1 ?_;refine⟨_,⟨_,rfl,.g h3'⟩,?_⟩;refine sI ?_;refine(hcut _ _).mono ?_;rintro r h' ⟨G2,rfl,hg2,A2,c2,rfl,hs2⟩;refine sI ?_;intro bk hbk;refine yu (L1:=[_]) (L2:=[_]) (E:=SE G2) (x:=pE s to) rfl ⟨A2,c2,rfl,hs2,hsi⟩ rfl (by simp[Value.oneCell']) (eN hzc fun _ _ h=>SE.le hg2 h) (by omega) (by omega) fun A' c' zc' hzc'=>?_
    rw[← htr]at hzc' ⊢;refine sI ?_;intros;refine dA (dE (.cons _ (.cons _ Kl))) ?_;intros;refine gR2 23 24 c189r7.eq_1 @hw ?_;intros;refine dy ?_;refine ej ⟨⟨k+1,G2,_,zc',⟨by omega,hg'.trans hg2,hzc'⟩,eE,eE,eE,eE,eE,eE,rfl⟩,?_⟩;refine sI ?_;omega
   ·rw[if_neg k1,append_nil]at htr;intros;refine gN ?_;refine dA (dE (L':=[.row u 120 2 (jT (l.segs.take k) to).length zc,.reg 2 [.int .i64 0,.int .i64 0,.slice none 0 0]]) (.cons _ Kl)) ?_;intros;refine gR2 23 24 c189r7.eq_1 @hw ?_;intros;refine dy ?_;rw[← htr]at hzc ⊢;refine ej ⟨⟨k+1,G',_,zc,⟨by omega,hg',hzc⟩,eE,eE,eE,eE,eE,eE,rfl⟩,?_⟩;refine sI ?_;omega
  ·have ht:k=l.segs.length:=by have:=Ko ht;omega
   subst ht;rw[take_length]at hzc ⊢;refine dS ?_;refine sI ?_;intros;refine gN ?_;exact ej ⟨G',u,zc,⟨hg',hzc⟩,eE,eE,eE,rfl⟩
 rintro e h ⟨G1,u,zc,⟨hg1,hzc⟩,e3,e0,e1,rfl⟩;refine dC [0,1,3] ?_;refine sJ3 @e0 @e1 @e3 ?_;intros;intros;try refine dx ?_
 refine ei (gU (.head _)) ?_;rintro h' ⟨rfl,A2,c2,rfl,-,-⟩
 refine ez (fun e h=>∃ (A2:Ka) (c2:Nat) (zc:J6) (Lh:J8),Cells (SE G1) 2 (nQ l.segs to) zc∧e 3=.slice A2 (nQ l.segs to).length c2∧e 0=.pointer (some ⟨b2,0,none⟩)∧e 1=.pointer (some ⟨b3,0,none⟩)∧h=⟨G1,Lh,[]⟩∧([.row (.slice A2 (nQ l.segs to).length c2) 120 2 (nQ l.segs to).length zc,.reg 2 [.int .i64 0,.int .i64 0,.slice none 0 0]]:J8).Sublist Lh) ?_ ?_
 ·intros;refine gR 24 26 c189r8.eq_1 ?_;intros;refine gC ?_;refine gb (fun k1=>?_) (fun k1=>?_)
  ·have k1:jT l.segs to=[]:=List.eq_nil_of_length_eq_zero (by have:=Kn k1;omega);have ht:nQ l.segs to=[⟨to,[]⟩]:=by rw[nQ,if_pos k1]
   rw[ht];intros;refine gR 27 30 c189r9.eq_1 ?_;refine⟨_,⟨_,rfl,.g (dN hg1 h3)⟩,?_⟩;refine sI ?_;intro bk hbk;refine sI ?_;intros;refine dy ?_;exact ej ⟨_,_,_,_,Cells.one (E:=SE G1) (x:=⟨to,[]⟩) ⟨none,0,rfl,SB.nil,hto⟩ rfl,eE,eE,eE,rfl,.cons_cons _ (.cons _ Kl)⟩
  ·have k1:¬ jT l.segs to=[]:=fun h=>by rw[h]at k1;simp at k1
   have ht:nQ l.segs to=jT l.segs to:=by rw[nQ,if_neg k1]
   rw[ht];intros;refine gN ?_;exact ej ⟨_,_,_,_,hzc,eE,eE,eE,rfl,List.Sublist.refl _⟩
 rintro e h ⟨A2,c2,zc,Lh,hzc,e3,e0,e1,rfl,hsub⟩;refine dC [0,1,3] ?_;refine sJ3 @e0 @e1 @e3 ?_;intros;refine dA (dE hsub) ?_;refine ei (dT [] _ (by decide) hzc) ?_;rintro h' ⟨G2,rfl,hg2,hv2⟩;have hg02:=hg1.trans hg2;intros;refine gR 30 33 c189r10.eq_1 ?_;refine⟨_,⟨_,[.int .i64 l.limit,.int .i64 l.start,.slice A l.segs.length c],rfl,rfl,rfl,fun j u hu=>.g (dN hg02 (h2 j u hu))⟩,?_⟩;refine sI ?_
 refine fK (lO _ _ _ _ _ _ _ _ _ _ _) ?_;intros;refine rW ?_;exact⟨_,rfl,A2,c2,rfl,hv2.le (.refl _) fun _ _ h=>SE.le hg2 h,hi,hj⟩
theorem sb(l:Lg)(to:Int)(cs:J6)(G:J5)(hl:LE G l cs)(hb:smL l.segs)(hm:l.segs.length≤1000)(hto:I64 to):
  FnD Tryz.prog 167 #[.agg cs.toArray,.int .i64 to] G (LgR (j5 l to)):=by
 have hl0:=hl;obtain⟨A,c,rfl,hsl,hi,hj⟩:=hl;refine F167.fnD (by simp) (dI ?_);unfold c167;unfold es at hl0 ⊢;intros;refine gR 0 0 c167r0.eq_1 ?_;intro b2 hb2 b3 hb3;intros;refine dy ?_;refine ei (eg [_] _) ?_;rintro h' ⟨G1,rfl,hg1,f3⟩;refine ei (eg [_] _) ?_;rintro h' ⟨G2,rfl,hg2,f2⟩;have e3:=dN hg2 (f3 0 _ rfl);rw[eA]at e3;have hg02:=hg1.trans hg2;intros;refine gR 6 12 c167r1.eq_1 ?_
 refine⟨_,⟨_,[.int .i64 l.limit,.int .i64 l.start,.slice A l.segs.length c],rfl,rfl,rfl,fun j u hu=>.g (f2 j u hu)⟩,?_⟩;refine sI ?_;refine⟨_,⟨_,rfl,.g e3⟩,?_⟩;refine sI ?_;refine(Fy l to 189 _ _ _ G2 (LE.le hg02 hl0) hb (by omega) (fun _ _=>qd l to A c b2 b3 G2 (SlSE.le hg02 hsl) hi hj hb hm hto f2 e3) _ _).mono ?_;rintro r h' ⟨G3,rfl,hg3,cs,rfl,hle⟩;have hle0:=hle;obtain⟨A3,c3,rfl,hs3⟩:=hle
 unfold es;refine sI ?_;intros;refine rW ?_;exact⟨_,rfl,hle0⟩
theorem F89:Fun Tryz.prog 89 94 v89 c89 o89:=Fun.mkA Tryz.func89 Tryz.ntmps89
def oz:Option Sg→List Sg→Bool
 | _,[]=>true
 | p,s :: ss=>jb p s && oz (some s) ss
theorem qJ:∀ (l:List Sg) (p:Option Sg) (s:Sg),gj p (l++[s])=gj p l++(if (oz p l && jb (j8 p l) s)=true then[(lK s).1]else[])∧oz p (l++[s])=(oz p l && jb (j8 p l) s)
 | [],p,s=>by simp[gj,oz,j8]
 | t :: l,p,s=>by
  obtain⟨h1,h2⟩:=qJ l (some t) s;rw[List.cons_append,gj,gj,oz,oz,j8];by_cases hk:jb p t=true
  ·rw[if_pos hk,if_pos hk,h1,h2,hk];simp
  ·rw[if_neg hk,if_neg hk,h2];have:jb p t=false:=by simpa using hk
   simp[this]
theorem BI{l:List Sg}{k:Nat}{s:Sg}(h:l[k]?=some s):gj none (l.take (k+1))=gj none (l.take k)++(if (oz none (l.take k) && jb (j8 none (l.take k)) s)=true then[(lK s).1]else[])∧oz none (l.take (k+1))=(oz none (l.take k) && jb (j8 none (l.take k)) s):=by
 rw[eo h];exact qJ _ _ _
theorem rJ:∀ (l:List Sg) (p:Option Sg),(gj p l).length≤l.length∧(oz p l=true↔(gj p l).length=l.length)
 | [],p=>by simp[gj,oz]
 | s :: l,p=>by
  obtain⟨h1,h2⟩:=rJ l (some s);rw[gj,oz];by_cases hk:jb p s=true
  ·rw[if_pos hk,hk,Bool.true_and];simp only[length_cons];exact⟨by omega,h2.trans (by omega)⟩
  ·have:jb p s=false:=by simpa using hk
   rw[if_neg hk,this];simp
theorem ww(l:List Sg)(k:Nat):gA (l.take k)≤gA l:=by
 conv=>rhs;rw[← List.take_append_drop k l,lC]
 omega
theorem tH:∀ (l:List Sg) (p:Option Sg),gA (gj p l)≤gA l
 | [],p=>Nat.le_refl _
 | s :: l,p=>by
  rw[gj];split
  ·have h1:=tH l (some s);have h2:(lK s).1.bytes.length≤s.bytes.length:=by
    show(s.bytes.take _).length≤_;rw[List.length_take];omega
   simp only[gA];omega
  ·simp[gA]
theorem Ca{l:List Sg}(h:smL l):gA l≤100000 * l.length:=by
 induction l with
 | nil=>simp[gA]
 | cons s l ih =>
  have h1:=ih fun t ht=>h t (.tail _ ht)
  have h2:=h s (.head _);simp only[gA,length_cons];omega
set_option maxHeartbeats 1000000 in
theorem nU(l:Lg)(cs:J6)(G:J5)(hl:LE G l cs)(hb:smL l.segs)(hm:l.segs.length≤1000):
  FnD Tryz.prog 89 #[.agg cs.toArray] G (LgR (ib l)):=by
 obtain⟨A,c,rfl,hsl,hi,hj⟩:=hl;have hsl0:=hsl;obtain⟨A0,c0,he,hc,hmx,hA⟩:=hsl;cases he;refine F89.fnD (by simp) (dI ?_);unfold c89 es;intros;refine gR 0 0 c89r0.eq_1 ?_;intros;intros;try refine dx ?_
 refine ez (fun e h=>(mB l.limit l.start=true∧nr l=true)∧e 3=.int .i64 0∧h=⟨G,[.reg 2 [.int .i64 0,.int .i64 0,.slice none 0 0],.reg 1 [.int .i64 l.limit,.int .i64 l.start,.slice A l.segs.length c]],[]⟩) ?_ ?_
 ·intros;refine gR 9 28 c89r1.eq_1 ?_;refine fK (wr _ _ _ _ _) ?_;refine gd (fun k1=>?_) (fun k1=>?_)
  ·have k1:mB l.limit l.start=false:=by simpa using k1
   refine sI ?_;intros;refine gC ?_;intros;refine gR 29 30 c89r2.eq_1 ?_;intros;refine rW ?_;rw[ib,if_neg (by rw[k1];simp)];exact hH
  have k1:mB l.limit l.start=true:=by simpa using k1
  refine sI ?_;refine gd (fun k2=>?_) (fun k2=>?_)
  ·have k2:l.segs=[]:=List.eq_nil_of_length_eq_zero (by have:=Kn k2;omega);have hh:nr l=false:=by unfold nr;rw[k2]
   refine sI ?_;intros;refine gC ?_;intros;refine gR 29 30 c89r2.eq_1 ?_;intros;refine rW ?_;rw[ib,if_neg (by rw[hh];simp)];exact hH
  have k2:¬ l.segs=[]:=fun h=>by rw[h]at k2;simp at k2
  obtain⟨s0,ss,hss⟩:=List.exists_cons_of_ne_nil k2;have hs0:l.segs[0]?=some s0:=by rw[hss];rfl
  have hh:nr l=inO s0.base:=by unfold nr;rw[hss]
  refine sI ?_;refine hA.x_lf (k:=0) (u:=.int .i64 s0.base) hs0 rfl rfl (fun cs h=>by obtain⟨_,_,rfl,-⟩:=h;rfl) fun a ha=>?_
  refine sI ?_;refine fK (nC _ _ _ _) ?_;intros;refine gC ?_;refine gb (fun k3=>?_) (fun k3=>?_)
  ·have k3:inO s0.base=false:=by simpa using k3
   intros;refine gR 29 30 c89r2.eq_1 ?_;intros;refine rW ?_;rw[ib,if_neg (by rw[hh,k3];simp)];exact hH
  ·have k3:inO s0.base=true:=by simpa using k3
   intros;refine gN ?_;exact ej ⟨⟨k1,by rw[hh,k3]⟩,eE,rfl⟩
 rintro e h ⟨⟨k1,k2⟩,e3,rfl⟩;refine dC [3] ?_;refine sJ @e3 ?_;have hrec:ib l=(⟨l.limit,l.start,gj none l.segs⟩,(gA l.segs:Int) - (gA (gj none l.segs):Int)):=by rw[ib,if_pos ⟨k1,k2⟩]
 rw[hrec];have hsm:=Ca hb;intros;intros;refine gR 30 32 c89r3.eq_1 ?_;refine fK (lO _ _ _ _ _ _ _ _ _ _ _) ?_;intros;refine gR 0 0 c89r4.eq_1 ?_;intros;intros;try refine dx ?_
 refine dA (dW none 120 2) ?_
 refine ez (fun e h=>∃ (G':J5) (A2:Ka) (c2:Nat) (zc:J6),(Gle G G'∧Cells (SE G') 2 (gj none l.segs) zc)∧e 3=.int .i64 ((gA l.segs:Int) - (gA (gj none l.segs):Int))∧h=⟨G',[.row (.slice A2 (gj none l.segs).length c2) 120 2 (gj none l.segs).length zc,.reg 2 [.int .i64 l.limit,.int .i64 l.start,.slice A2 (gj none l.segs).length c2],.reg 1 [.int .i64 l.limit,.int .i64 l.start,.slice A l.segs.length c]],[]⟩) ?_ ?_
 ·intros;refine dy ?_
  refine dV (fun e h=>∃ (k:Nat) (G':J5) (A2:Ka) (c2:Nat) (zc:J6),(k≤l.segs.length∧Gle G G'∧Cells (SE G') 2 (gj none (l.segs.take k)) zc)∧e 35=.int .i64 k∧e 34=.int .i64 l.segs.length∧e 33=.slice A l.segs.length c∧e 3=.int .i64 ((gA (l.segs.take k):Int) - (gA (gj none (l.segs.take k)):Int))∧h=⟨G',[.row (.slice A2 (gj none (l.segs.take k)).length c2) 120 2 (gj none (l.segs.take k)).length zc,.reg 2 [.int .i64 l.limit,.int .i64 l.start,.slice A2 (gj none (l.segs.take k)).length c2],.reg 1 [.int .i64 l.limit,.int .i64 l.start,.slice A l.segs.length c]],[]⟩) (fun e h=>l.segs.length - iv (e 35)) ?_ ?_
  ·exact⟨0,G,none,0,[],⟨Nat.zero_le _,.refl _,.nil⟩,eE,eE,eE,by refine sI ?_;rfl,rfl⟩
  rintro e h ⟨k,G',A2,c2,zc,⟨hk,hg',hzc⟩,e35,e34,e33,e3,rfl⟩;refine dC [3,33,34,35] ?_;refine sJ4 @e3 @e33 @e34 @e35 ?_;intros;refine gR 0 0 c89r5.eq_1 ?_;intros;refine gC ?_;refine gb (fun ht=>?_) (fun ht=>?_)
  ·have ht:k < l.segs.length:=by have:=Kn ht;omega
   have hw:=fi k c (by omega) hmx;obtain⟨s,hs⟩:∃ s,l.segs[k]?=some s:=⟨l.segs[k],getElem?_eq_getElem (by omega)⟩;have hbs:=hb s (mem_of_getElem? hs);obtain⟨hr1,hr2⟩:=BI hs;obtain⟨hle,hiff⟩:=rJ (l.segs.take k) none;have hlk:(l.segs.take k).length=k:=by rw[List.length_take];omega
   rw[hlk]at hle hiff;have hz1:gA (l.segs.take (k+1))=gA (l.segs.take k)+s.bytes.length:=by rw[eo hs,lC];simp[gA]
   have hz2:=ww l.segs (k+1);have hz3:=tH (l.segs.take k) none;have hA':=hA.le hg' (E':=SE G') fun _ _ h=>SE.le hg' h
   have hw2:IntKind.i64.wrap ((gA (l.segs.take k):Int) - (gA (gj none (l.segs.take k)):Int)+(s.bytes.length:Int))=(gA (l.segs.take k):Int) - (gA (gj none (l.segs.take k)):Int)+(s.bytes.length:Int):=by rw[dX] <;> omega
   intros;refine gN ?_;intros;refine gR 37 40 c89r6.eq_1 ?_;refine hA'.x_ld hs rfl rfl ?_;rintro a1 ha1 cs hse;have hse0:=hse;have hfix:=mP (Ge s cs G' hse (by omega));obtain⟨B,d,rfl,hsb,hsi⟩:=hse;unfold ip at hfix hse0 ⊢;refine sI ?_;intros;refine gR2 40 45 c89r7.eq_1 @hw2 ?_;intros;intros;try refine dx ?_
   refine ez (fun e h=>(oz none (l.segs.take k) && jb (j8 none (l.segs.take k)) s)=true∧e 35=.int .i64 k∧e 34=.int .i64 l.segs.length∧e 33=.slice A l.segs.length c∧e 3=.int .i64 ((gA (l.segs.take k):Int) - (gA (gj none (l.segs.take k)):Int)+(s.bytes.length:Int))∧h=⟨G',[.reg 5 [.int .i64 s.base,.slice B s.bytes.length d],.row (.slice A2 (gj none (l.segs.take k)).length c2) 120 2 (gj none (l.segs.take k)).length zc,.reg 2 [.int .i64 l.limit,.int .i64 l.start,.slice A2 (gj none (l.segs.take k)).length c2],.reg 1 [.int .i64 l.limit,.int .i64 l.start,.slice A l.segs.length c]],[]⟩) ?_ ?_
   ·have hd50:decide (((gj none (l.segs.take k)).length:Int) < (k:Int))=!oz none (l.segs.take k):=by
     by_cases h:oz none (l.segs.take k)=true
     ·rw[h];exact decide_eq_false (by have:=hiff.1 h;omega)
     ·have h2:oz none (l.segs.take k)=false:=by simpa using h
      rw[h2];exact decide_eq_true (by have:¬ (gj none (l.segs.take k)).length=k:=fun hh=>h (hiff.2 hh);omega)
    intros;refine dy ?_;refine nP _ Kl (by decide) ?_;refine sJ2 c89r8.eq_1 @hd50 ?_;refine gx (fun k3=>?_) (fun k3=>?_)
    ·have k3:oz none (l.segs.take k)=false:=by simpa using k3
     have hr1':gj none (l.segs.take (k+1))=gj none (l.segs.take k):=by rw[hr1,k3];simp
     have hq:(gA (l.segs.take k):Int) - (gA (gj none (l.segs.take k)):Int)+(s.bytes.length:Int)=(gA (l.segs.take (k+1)):Int) - (gA (gj none (l.segs.take (k+1))):Int):=by rw[hr1',hz1];push_cast;omega
     refine sI ?_;intros;refine gC ?_;rw[← hr1']at hzc hq ⊢;refine dS ?_;refine sI ?_;refine dA (dE (.cons _ Kl)) ?_;intros;refine gR2 91 92 c89r12.eq_1 @hw ?_;intros;refine dy ?_;refine ej ⟨⟨k+1,G',A2,c2,zc,⟨by omega,hg',hzc⟩,eE,eE,eE,(eJ @hq),rfl⟩,?_⟩;refine sI ?_;omega
    have k3:oz none (l.segs.take k)=true:=by simpa using k3
    rw[k3,Bool.true_and]at hr1 ⊢;refine sI ?_;refine gx (fun k4=>?_) (fun k4=>?_)
    ·have k4:0 < k:=by have:=Kn k4;omega
     have hw1:IntKind.i64.wrap ((k:Int) - 1)=(k:Int) - 1:=by unfold maxLen at hmx;rw[dX] <;> omega
     obtain⟨p,hp⟩:∃ p,l.segs[k - 1]?=some p:=⟨l.segs[k - 1],getElem?_eq_getElem (by omega)⟩;have hbp:=hb p (mem_of_getElem? hp);rw[pM k4 hp]at hr1 ⊢;refine sJ @hw1 ?_;refine hA'.y_ld hp (by omega) rfl ?_;rintro a2 ha2 cs2 hpe;have hwh:=tE p cs2 G' hpe (by omega);obtain⟨B2,d2,rfl,-⟩:=hpe;unfold ip at hwh ⊢;refine sI ?_;refine fK (hwh _ _) ?_;refine gx (fun k5=>?_) (fun k5=>?_)
     ·have k5:fh p=false:=by simpa using k5
      have hkp:jb (some p) s=false:=by simp[jb,k5]
      have hr1':gj none (l.segs.take (k+1))=gj none (l.segs.take k):=by rw[hr1,hkp];simp
      have hq:(gA (l.segs.take k):Int) - (gA (gj none (l.segs.take k)):Int)+(s.bytes.length:Int)=(gA (l.segs.take (k+1)):Int) - (gA (gj none (l.segs.take (k+1))):Int):=by rw[hr1',hz1];push_cast;omega
      refine sI ?_;intros;refine gC ?_;rw[← hr1']at hzc hq ⊢;refine dS ?_;refine sI ?_;refine dA (dE (.cons _ Kl)) ?_;intros;refine gR2 91 92 c89r12.eq_1 @hw ?_;intros;refine dy ?_;refine ej ⟨⟨k+1,G',A2,c2,zc,⟨by omega,hg',hzc⟩,eE,eE,eE,(eJ @hq),rfl⟩,?_⟩;refine sI ?_;omega
     have k5:fh p=true:=by simpa using k5
     have hkp:jb (some p) s=tG p s:=by simp[jb,k5]
     refine sJ @hw1 ?_;refine hA'.y_ld hp (by omega) rfl ?_;rintro a3 ha3 cs3 hpe3;have hfo:=nV p s cs3 _ G' hpe3 hse0 (by omega);obtain⟨B3,d3,rfl,-⟩:=hpe3;unfold ip at hfo ⊢;refine sI ?_;refine fK (hfo _ _) ?_;intros;refine gC ?_;refine gb (fun k6=>?_) (fun k6=>?_)
     ·have k6:tG p s=false:=by simpa using k6
      rw[k6]at hkp;have hr1':gj none (l.segs.take (k+1))=gj none (l.segs.take k):=by rw[hr1,hkp];simp
      have hq:(gA (l.segs.take k):Int) - (gA (gj none (l.segs.take k)):Int)+(s.bytes.length:Int)=(gA (l.segs.take (k+1)):Int) - (gA (gj none (l.segs.take (k+1))):Int):=by rw[hr1',hz1];push_cast;omega
      rw[← hr1']at hzc hq ⊢;refine dS ?_;refine sI ?_;refine dA (dE (.cons _ Kl)) ?_;intros;refine gR2 91 92 c89r12.eq_1 @hw ?_;intros;refine dy ?_;refine ej ⟨⟨k+1,G',A2,c2,zc,⟨by omega,hg',hzc⟩,eE,eE,eE,(eJ @hq),rfl⟩,?_⟩;refine sI ?_;omega
     ·have k6:tG p s=true:=by simpa using k6
      rw[k6]at hkp;intros;refine gN ?_;exact ej ⟨hkp,eE,eE,eE,eE,rfl⟩
    ·have k4:k=0:=by have:=Ko k4;omega
     have hkp:jb (j8 none (l.segs.take k)) s=true:=by rw[k4];rfl
     refine sI ?_;intros;refine gC ?_;intros;refine gN ?_;exact ej ⟨hkp,eE,eE,eE,eE,rfl⟩
   rintro e h ⟨hkeep,e35,e34,e33,e3,rfl⟩;refine dC [3,33,34,35] ?_;refine sJ4 @e3 @e33 @e34 @e35 ?_;rw[hkeep,if_pos rfl]at hr1;have hgl:(lK s).1.bytes.length≤s.bytes.length:=by
    show(s.bytes.take _).length≤_;rw[List.length_take];omega
   have hw3:IntKind.i64.wrap ((gA (l.segs.take k):Int) - (gA (gj none (l.segs.take k)):Int)+(s.bytes.length:Int) - ((lK s).1.bytes.length:Int))=(gA (l.segs.take (k+1)):Int) - (gA (gj none (l.segs.take (k+1))):Int):=by
    rw[hr1,lC,hz1];simp only[gA];rw[dX] <;> omega
   generalize (gA (l.segs.take k):Int) - (gA (gj none (l.segs.take k)):Int)+(s.bytes.length:Int)=D0 at *;have hfb:(lK s).1.base=s.base:=rfl;generalize lK s=q at *;obtain⟨s',er⟩:=q;dsimp only at hr1 hgl hw3 hfb;intros;refine gR 75 80 c89r9.eq_1 ?_;refine(hfix _ _).mono ?_;rintro r h' ⟨G2,rfl,hg2,A3,c3,rfl,hs3⟩;refine sI ?_;intros;refine gR2 80 85 c89r10.eq_1 @hw3 ?_
   have hzc2:Cells (SE G2) 2 (gj none (l.segs.take k)) zc:=eN hzc fun _ _ h=>SE.le hg2 h
   have hse3:SE G2 s' [.int .i64 s'.base,.slice A3 s'.bytes.length c3]:=⟨A3,c3,rfl,hs3,by rw[hfb];exact hsi⟩;intros;refine gR 86 90 c89r11.eq_1 ?_;intro bk hbk;refine yu (L1:=[_,_]) (L2:=[_,_]) (E:=SE G2) (x:=s') rfl hse3 rfl (by simp[Value.oneCell']) hzc2 (by omega) (by omega) fun A' c' zc' hzc'=>?_
   rw[← hr1]at hzc' ⊢;refine sI ?_;intros;refine dA (dE (.cons _ (.cons _ (.cons _ Kl)))) ?_;intros;refine gR2 91 92 c89r12.eq_1 @hw ?_;intros;refine dy ?_;refine ej ⟨⟨k+1,G2,A',c',zc',⟨by omega,hg'.trans hg2,hzc'⟩,eE,eE,eE,eE,rfl⟩,?_⟩;refine sI ?_;omega
  ·have ht:k=l.segs.length:=by have:=Ko ht;omega
   subst ht;rw[take_length]at hzc e3 ⊢;refine dS ?_;refine sI ?_;intros;refine gN ?_;exact ej ⟨G',A2,c2,zc,⟨hg',hzc⟩,eE,rfl⟩
 rintro e h ⟨G1,A2,c2,zc,⟨hg1,hzc⟩,e3,rfl⟩;refine dC [3] ?_;refine sJ @e3 ?_;intros;refine ei (dT [] _ (by decide) hzc) ?_;rintro h' ⟨G2,rfl,hg2,hv2⟩;intros;refine gR 92 94 c89r13.eq_1 ?_;intros;refine rW ?_;exact⟨_,rfl,A2,c2,rfl,hv2.le (.refl _) fun _ _ h=>SE.le hg2 h,hi,hj⟩
theorem F77:Fun Tryz.prog 77 46 v77 c77 o77:=Fun.mkA Tryz.func77 Tryz.ntmps77
theorem zY(a b:Lg)(cs ds:J6)(G:J5)(ha:LE G a cs)(hb:LE G b ds):FnS Tryz.prog 77 #[.agg cs.toArray,.agg ds.toArray] G (.bool (decide (a=b))):=by
 obtain⟨A,c,rfl,⟨A0,c0,he,hc,hm,hA⟩,hi,hj⟩:=ha;cases he;obtain⟨B,d,rfl,⟨B0,d0,he,hd,hn,hB⟩,hi2,hj2⟩:=hb;cases he;have hde:a=b↔a.limit=b.limit∧a.start=b.start∧a.segs=b.segs:=by
  constructor
  ·rintro rfl;exact⟨rfl,rfl,rfl⟩
  ·rintro⟨h1,h2,h3⟩;cases a;cases b;simp_all
 refine F77.fnS (by simp) (dI ?_);unfold c77 es;intros;refine gR 0 0 c77r0.eq_1 ?_;intros;refine gR 7 26 c77r1.eq_1 ?_;refine gd (fun k1=>?_) (fun k1=>?_)
 ·have k1:=Kn k1;refine sI ?_;intros;refine gC ?_;intros;refine gR 0 0 c77r2.eq_1 ?_;intros;refine rW ?_;rw[decide_eq_false fun h=>k1 (hde.1 h).1]
 have k1:a.limit=b.limit:=by simpa using k1
 refine sI ?_;refine gd (fun k2=>?_) (fun k2=>?_)
 ·have k2:=Kn k2;refine sI ?_;intros;refine gC ?_;intros;refine gR 0 0 c77r2.eq_1 ?_;intros;refine rW ?_;rw[decide_eq_false fun h=>k2 (hde.1 h).2.1]
 have k2:a.start=b.start:=by simpa using k2
 refine sI ?_;intros;refine gC ?_;refine gb (fun k3=>?_) (fun k3=>?_)
 ·have k3:=Kn k3;intros;refine gR 0 0 c77r2.eq_1 ?_;intros;refine rW ?_;rw[decide_eq_false fun h=>k3 (by rw[(hde.1 h).2.2])]
 have k3:a.segs.length=b.segs.length:=by have:=Ko k3;omega
 intros;refine gN ?_;intros;refine gR 0 0 c77r3.eq_1 ?_;intros;refine dy ?_;refine dV (fun e h=>∃ k:Nat,(k≤a.segs.length∧a.segs.take k=b.segs.take k)∧e 5=.int .i64 k∧h=⟨G,[.reg 3 [.int .i64 b.limit,.int .i64 b.start,.slice B b.segs.length d],.reg 2 [.int .i64 a.limit,.int .i64 a.start,.slice A a.segs.length c]],[]⟩) (fun e h=>a.segs.length - iv (e 5)) ?_ ?_
 ·exact⟨0,⟨Nat.zero_le _,rfl⟩,eE,rfl⟩
 rintro e h ⟨k,⟨hk,htk⟩,e5,rfl⟩;refine dC [5] ?_;refine sJ @e5 ?_;intros;refine gR 27 31 c77r4.eq_1 ?_;intros;refine gC ?_;refine gb (fun ht=>?_) (fun ht=>?_)
 ·have ht:k < a.segs.length:=by have:=Kn ht;omega
  have hw:=fi k c (by omega) hm;obtain⟨x,hx⟩:∃ x,a.segs[k]?=some x:=⟨a.segs[k],getElem?_eq_getElem (by omega)⟩;obtain⟨y,hy⟩:∃ y,b.segs[k]?=some y:=⟨b.segs[k],getElem?_eq_getElem (by omega)⟩;intros;refine gN ?_;intros;refine dy ?_;refine nP _ Kl (by decide) ?_;refine sJ c77r5.eq_1 ?_;refine hA.y_ld hx rfl rfl ?_;rintro a1 ha1 cs hbx;refine sI ?_;refine hB.y_ld hy rfl rfl ?_
  rintro a2 ha2 ds hby;have hsm:=zA x y cs ds G hbx hby;obtain⟨B1,d1,rfl,-⟩:=hbx;obtain⟨B2,d2,rfl,-⟩:=hby;unfold ip at hsm ⊢;refine sI ?_;refine fK (hsm _ _) ?_;intros;refine gC ?_;refine gb (fun h3=>?_) (fun h3=>?_)
  ·have h3:¬ x=y:=by simpa using h3
   intros;refine gR 0 0 c77r6.eq_1 ?_;intros;refine rW ?_;rw[decide_eq_false fun h=>h3 (by have:=(hde.1 h).2.2;rw[this,hy]at hx;cases hx;rfl)]
  ·have h3:x=y:=by simpa using h3
   intros;refine gN ?_;intros;refine gR2 32 34 c77r7.eq_1 @hw ?_;intros;refine dy ?_;refine ej ⟨⟨k+1,⟨by omega,iZ htk hx hy h3⟩,eE,rfl⟩,?_⟩;refine sI ?_;omega
 ·have ht:k=a.segs.length:=by have:=Ko ht;omega
  refine dS ?_;refine sI ?_;intros;refine gR 0 0 c77r8.eq_1 ?_;intros;refine rW ?_;rw[decide_eq_true (hde.2 ⟨k1,k2,kY ht k3 htk⟩)]
theorem qp{l:Lg}(h:fq l=0):smL l.segs:=fun s hs=>by
 obtain⟨h1,h2,h3,h4⟩:=fB h;have:=(ry h3 s hs).2;have:=(ij.1 h1).1.2;omega
theorem wH{l:Lg}{s:Sg}{c:Nat}(h:fq l=0)(hs:l.segs[l.segs.length - 1]?=some s)(hc:c≤s.bytes.length):∃ j,Hurt l ⟨l.limit,l.start,l.segs.set (l.segs.length - 1) ⟨s.base,s.bytes.take c⟩⟩ s ⟨s.base,s.bytes.take c⟩ (l.segs.take (l.segs.length - 1)) [] j:=by
 have h0:=(List.getElem?_eq_some_iff.1 hs).1;have hdr:l.segs.drop (l.segs.length - 1+1)=[]:=List.drop_eq_nil_of_le (by omega);have h1:=jI hs;have h2:=tj (⟨s.base,s.bytes.take c⟩:Sg) hs;rw[hdr]at h1 h2;obtain⟨r,hsc⟩:=eG s;obtain⟨k,r',-,hk,-⟩:=qO _ hsc hc;exact⟨k,h,rfl,rfl,h1,h2,rfl,by rw[List.length_take];omega,hk.is (s:=⟨s.base,s.bytes.take c⟩),.inl rfl⟩
end Go.Proofs.YtpmofpekcbghnaaGreat
namespace Go.Proofs.YtpmofpekcbghnaaGreat
open Go Go.Kx
open List (getElem?_eq_getElem mem_of_getElem? length_append append_nil append_assoc length_cons take_length)
theorem F124:Fun Tryz.prog 124 12 v124 c124 o124:=Fun.mkA Tryz.func124 Tryz.ntmps124
theorem F108:Fun Tryz.prog 108 47 v108 c108 o108:=Fun.mkA Tryz.func108 Tryz.ntmps108
theorem F125:Fun Tryz.prog 125 8 v125 c125 o125:=Fun.mkA Tryz.func125 Tryz.ntmps125
theorem F70:Fun Tryz.prog 70 77 v70 c70 o70:=Fun.mkA Tryz.func70 Tryz.ntmps70
theorem kr(a b:Int)(G:J5):FnS Tryz.prog 124 #[.int .i64 a,.int .i64 b] G (.bool (decide (0≤a) && decide (a≤b))):=by
 refine F124.fnS (by simp) (dI ?_);unfold c124;intros;refine gR 0 0 c124r0.eq_1 ?_;intros;refine gR 5 12 c124r1.eq_1 ?_;refine gd (fun hp=>?_) (fun hp=>?_) <;> (refine sI ?_) <;> (intros;refine dy ?_) <;> (intros;refine rV ?_;simp only[push_cast,Nat.reduceBEq]) <;> simp[hp]
abbrev Ep:=Int × Int
def EpE(x:Ep)(cs:J6):Prop:=cs=[.int .i64 x.1,.int .i64 x.2]∧I64 x.1∧I64 x.2
abbrev SEp(G:J5)(v:Value)(xs:List Ep):Prop:=SlV G EpE 2 v xs
def okE(x:Ep):Bool:=(decide (0≤x.1) && decide (x.1≤1048576)) && (decide (0≤x.2) && decide (x.2≤1099511627776))
def Chk(l:List Ep)(k:Nat):Prop:=∀ i x,i < k→l[i]?=some x→okE x=true∧∀ p,0 < i→l[i - 1]?=some p→p.1 < x.1∧p.2 < x.2
open Classical in
noncomputable def gK(l:List Ep):Int:=if Chk l l.length then 0 else 1
theorem tw{l:List Ep}{k:Nat}{x:Ep}(h:Chk l k)(hx:l[k]?=some x)(h1:okE x=true)(h2:∀ p,0 < k→l[k - 1]?=some p→p.1 < x.1∧p.2 < x.2):Chk l (k+1):=fun i y hi hy=>by
 by_cases hik:i=k
 ·subst hik;rw[hx]at hy;cases hy;exact⟨h1,h2⟩
 ·exact h i y (by omega) hy
theorem ju(l:List Ep)(v:Value)(G:J5)(hl:SEp G v l):FnS Tryz.prog 108 #[v] G (.int .i64 (gK l)):=by
 obtain⟨A,c,rfl,hc,hm,hA⟩:=hl;refine F108.fnS (by simp) (dI ?_);unfold c108;intros;refine gR 0 0 c108r0.eq_1 ?_;intros;refine gR 0 0 c108r1.eq_1 ?_;intros;refine dy ?_;refine dV (fun e h=>∃ k:Nat,(k≤l.length∧Chk l k)∧e 7=.int .i64 k∧e 6=.int .i64 l.length∧e 5=.slice A l.length c∧e 0=.slice A l.length c∧e 2=.int .i64 0∧h.G=G∧h.D=[]) (fun e h=>l.length - iv (e 7)) ?_ ?_
 ·exact⟨0,⟨Nat.zero_le _,fun i x hi=>absurd hi (by omega)⟩,eE,eE,eE,eE,eE,rfl,rfl⟩
 ·rintro e ⟨G',L,D⟩ ⟨k,⟨hk,hch⟩,e7,e6,e5,e0,e2,hG,hD⟩;dsimp only at hG hD;subst hG hD;refine dA (h':=⟨G',[],[]⟩) (dE Km) ?_;refine dC [0,2,5,6,7] ?_;refine sJ5 @e0 @e2 @e5 @e6 @e7 ?_;intros;refine gR 0 0 c108r2.eq_1 ?_;intros;refine gC ?_;refine gb (fun ht=>?_) (fun ht=>?_)
  ·have hkl:k < l.length:=by simpa using ht
   obtain⟨a,cs,rfl,⟨rfl,i1,i2⟩,_,hld,hfl⟩:=hA.at_ (getElem?_eq_getElem hkl) [] [];generalize hx:l[k]=x at *;have hx':l[k]?=some x:=by rw[getElem?_eq_getElem hkl,hx]
   intros;refine gR 9 12 c108r3.eq_1 ?_;refine⟨by omega,a,rfl,_,hld,?_⟩;refine sI ?_;intros;refine gR 13 21 c108r4.eq_1 ?_;refine(kr .. |>.mono ?_)
   rintro v h' ⟨rfl,rfl⟩;refine sI ?_;refine gd (fun h1=>?_) (fun h1=>?_)
   ·refine sI ?_;intros;refine gC ?_;intros;refine gR 0 0 c108r5.eq_1 ?_;intros;refine rW ?_;rw[gK,if_neg];intro hc2;have:=(hc2 k x hkl hx').1;simp[okE]at this h1;omega
   ·refine sI ?_;refine(kr .. |>.mono ?_)
    rintro v h' ⟨rfl,rfl⟩;refine sI ?_;intros;refine gC ?_;simp at h1;refine gb (fun h2=>?_) (fun h2=>?_)
    ·intros;refine gR 0 0 c108r5.eq_1 ?_;intros;refine rW ?_;rw[gK,if_neg];intro hc2;have:=(hc2 k x hkl hx').1;simp[okE]at this h2;omega
    ·have hok:okE x=true:=by simp at h2;simp[okE];omega
     intros;refine dy ?_;refine uS 22 45 (by decide) ?_;refine sJ c108r6.eq_1 ?_;refine gq (fun h3=>?_) (fun h3=>?_)
     ·refine sI ?_;obtain⟨j,rfl⟩:∃ j,k=j+1:=⟨k - 1,by simp at h3;omega⟩;have hw:IntKind.i64.wrap ((j:Int)+1 - 1)=j:=by have:=hm;unfold maxLen at this;rw[dX] <;> omega
      obtain⟨p,hp⟩:∃ p,l[j]?=some p:=⟨l[j],getElem?_eq_getElem (by omega)⟩;obtain⟨a',cs,ha',⟨rfl,j1,j2⟩,_,_,hfl'⟩:=hA.at_ hp [Item.reg 4 [Value.int IntKind.i64 x.fst,Value.int IntKind.i64 x.snd]] [];cases ha';have hpk:=(hch j p (by omega) hp).1;have hw1:IntKind.i64.wrap (x.1 - p.1)=x.1 - p.1:=by simp[okE]at hok hpk;rw[dX] <;> omega
      have hw2:IntKind.i64.wrap (x.2 - p.2)=x.2 - p.2:=by simp[okE]at hok hpk;rw[dX] <;> omega
      refine sJ @hw ?_;refine⟨by omega,a,rfl,_,hfl' 0 _ rfl,?_⟩;refine sJ2 @hw @hw1 ?_;refine⟨by omega,a,rfl,_,hfl' 1 _ rfl,?_⟩;refine sJ2 @hw @hw2 ?_;intros;refine gC ?_;refine gb (fun h4=>?_) (fun h4=>?_)
      ·intros;refine gR 0 0 c108r7.eq_1 ?_;intros;refine rW ?_;rw[gK,if_neg];intro hc2;have:=(hc2 (j+1) x hkl hx').2 p (by omega) hp;simp at h4;omega
      ·intros;refine gR 46 47 c108r8.eq_1 ?_;intros;refine dy ?_;have hw3:IntKind.i64.wrap ((j:Int)+1+1)=((j+1+1:Nat):Int):=by have:=hm;unfold maxLen at this;rw[dX] <;> omega
       refine ej ⟨⟨j+1+1,⟨by omega,tw hch hx' hok ?_⟩,?_⟩,?_⟩
       ·intro p' _ hp';rw[Nat.add_sub_cancel,hp]at hp';cases hp';simp at h4;omega
       ·refine⟨(eJ @hw3),eE,eE,eE,eE,rfl,rfl⟩
       ·refine sJ @hw3 ?_;omega
     ·have hk0:k=0:=by simp at h3;omega
      refine sI ?_;intros;refine gC ?_;intros;refine gR 46 47 c108r8.eq_1 ?_;intros;refine dy ?_;have hw3:IntKind.i64.wrap ((k:Int)+1)=(k:Int)+1:=by rw[dX] <;> omega
      refine ej ⟨⟨k+1,⟨by omega,tw hch hx' hok fun p h0 _=>absurd h0 (by omega)⟩,?_⟩,?_⟩
      ·refine⟨(eJ @hw3),eE,eE,eE,eE,rfl,rfl⟩
      ·refine sJ @hw3 ?_;omega
  ·have hkl:k=l.length:=by simp at ht;omega
   subst hkl;refine dS ?_;refine sI ?_;intros;refine gR 0 0 c108r9.eq_1 ?_;intros;refine rW ?_;rw[gK,if_pos hch]
theorem Jl:∀ (x:Ep) cs,EpE x cs→∀ u∈cs,u.oneCell'=true:=fun x cs h u hu=>by
 rw[h.1]at hu;simp at hu;rcases hu with rfl | rfl <;> rfl
theorem pP(l:List Ep)(v:Value)(G:J5)(hl:SEp G v l)(hb:l.length≤1000000):
  FnO Tryz.prog 125 #[v] G [] (fun _ L' r=>∃ ys,Cells EpE 2 l ys∧L'=[.row r 151 2 l.length ys]):=by
 refine F125.fnO (by simp) dw (dI ?_);have hl0:=hl;obtain⟨A,c,rfl,hc,hm,hA⟩:=hl;unfold c125;intros;refine gR 0 0 c125r0.eq_1 ?_;intros;refine gR 3 4 c125r1.eq_1 ?_;intros;refine gC ?_;refine gb (fun ht=>?_) (fun ht=>?_)
 ·intros;refine gR 0 0 c125r2.eq_1 ?_;intros;refine dy ?_;have hA0:l=[]:=by
   match l,hA with
   | [],_=>rfl
   | x :: xs,hA=>obtain⟨a,_,ha,_⟩:=hA 0 x rfl;subst ha;cases ht
  subst hA0;refine dA (dW none 151 2) ?_;refine dG (dL _ rfl Kl (dz dw) ?_);exact⟨[],.nil,rfl⟩
 ·intros;refine gR 5 8 c125r3.eq_1 ?_;intro b hb';refine my (.inr ⟨⟨_,rfl⟩,rfl,rfl,rfl,rfl⟩) hl0 rfl Jl (by unfold maxLen;omega) fun ys A c hc=>?_
  simp only[Nat.zero_add];refine sI ?_;intros;refine dy ?_;refine dG (dL _ rfl Kl (dz dw) ?_);exact⟨ys,hc,rfl⟩
noncomputable def iq(l:List Ep)(n s:Int):List Ep × Int :=
 if gK l≠0∨¬ okE (n,s)=true then([],1)else
 match l[l.length - 1]? with
 | none=>([(n,s)],0)
 | some p=>if n < p.1 then([],100)else if n=p.1 then(l,0)else if s < p.2 then([],71)else if s=p.2 then(l.set (l.length - 1) (n,s),0)else(l++[(n,s)],0)
theorem rE {l : List Ep} {n s : Int} (h1 : gK l = 0) (hok : okE (n, s) = true) : iq l n s = match l[l.length - 1]? with
     | none=>([(n,s)],0)
     | some p=>if n < p.1 then([],100)else if n=p.1 then(l,0)else if s < p.2 then([],71)else if s=p.2 then(l.set (l.length - 1) (n,s),0)else(l++[(n,s)],0):=by
 rw[iq,if_neg];simp[h1,hok]
def Ck(l:List Ep)(n s:Int)(L':J8)(r:Value):Prop :=
 ∃ u,r=.tuple #[u,.int .i64 (iq l n s).2]∧∃ ys,Cells EpE 2 (iq l n s).1 ys∧L'=[.row u 151 2 (iq l n s).1.length ys]
theorem Dr(l:List Ep)(n s:Int)(v:Value)(G:J5)(hl:SEp G v l)(hb:l.length≤1000000)(in1:I64 n)(is1:I64 s):
  FnO Tryz.prog 70 #[v,.int .i64 n,.int .i64 s] G [] (fun _ L' r=>Ck l n s L' r):=by
 refine F70.fnO (by simp) dw (dI ?_);have hl0:=hl;obtain⟨A,c,rfl,hc,hm,hA⟩:=hl;have herr:∀ code:Int,iq l n s=([],code)→∀ e:Env,e 6=.slice none 0 0→e 7=.int .i64 code→∀ h:H,h.D=[]→gl o70 (fun r h'=>Ck l n s h'.L r) .ret e h:=fun code hp e h6 h7 h hD=>by
  obtain⟨G',L,D⟩:=h;dsimp only at hD;subst hD;refine⟨[.slice none 0 0,.int .i64 code],by simp only[mc,o70,h6,h7];rfl,_,(dE (List.nil_sublist L)).trans (dW none 151 2),dz dw,?_⟩;refine⟨_,by rw[hp];rfl,[],?_,?_⟩
  ·rw[hp];exact .nil
  ·rw[hp];rfl
 unfold c70;intros;refine gR 0 0 c70r0.eq_1 ?_;intros;refine gR 11 23 c70r1.eq_1 ?_;refine(ju _ _ _ hl0 _ _).mono ?_;rintro v h' ⟨rfl,rfl⟩;refine sI ?_;refine gd (fun h1=>?_) (fun h1=>?_)
 ·refine sI ?_;intros;refine gC ?_;intros;refine gR 0 0 c70r2.eq_1 ?_;intros;refine dy ?_;refine dG (herr 1 ?_ _ (eE) (eE) _ rfl);rw[iq,if_pos];left;simpa using h1
 refine sI ?_;refine(kr .. |>.mono ?_)
 rintro v h' ⟨rfl,rfl⟩;refine sI ?_;have h1:gK l=0:=by simpa using h1
 refine gd (fun h2=>?_) (fun h2=>?_)
 ·refine sI ?_;intros;refine gC ?_;intros;refine gR 0 0 c70r2.eq_1 ?_;intros;refine dy ?_;refine dG (herr 1 ?_ _ (eE) (eE) _ rfl);rw[iq,if_pos];right;simp[okE]at h2 ⊢;omega
 refine sI ?_;refine(kr .. |>.mono ?_)
 rintro v h' ⟨rfl,rfl⟩;refine sI ?_;intros;refine gC ?_;refine gb (fun h3=>?_) (fun h3=>?_)
 ·intros;refine gR 0 0 c70r2.eq_1 ?_;intros;refine dy ?_;refine dG (herr 1 ?_ _ (eE) (eE) _ rfl);rw[iq,if_pos];right;simp[okE]at h3 ⊢;omega
 have hok:okE (n,s)=true:=by simp at h2 h3;simp[okE];omega
 have hput:=rE h1 hok;intros;refine gR 24 29 c70r3.eq_1 ?_;refine(pP l _ G hl0 hb [] []).mono ?_;rintro u h' ⟨G',L',rfl,hg,ys,hys,rfl⟩;refine sI ?_;intros;refine gR 29 31 c70r4.eq_1 ?_;intros;refine gC ?_;refine gb (fun h4=>?_) (fun h4=>?_)
 ·have hl4:l=[]:=by simpa using h4
  subst hl4;have hys0:ys=[]:=by cases hys;rfl
  subst hys0;intros;refine gR 32 36 c70r5.eq_1 ?_;intro b hb';refine⟨[.row (.slice (some ⟨b,0,none⟩) 1 1) 151 2 1 [.int .i64 n,.int .i64 s],.reg 9 [.int .i64 n,.int .i64 s]],0,[],[],1,[.int .i64 n,.int .i64 s],.inl rfl,kX (.head _) ?_ rfl,by decide,fun A' c'=>?_⟩
  ·intro u hu;simp at hu;rcases hu with rfl | rfl <;> rfl
  ·refine sI ?_;intros;refine dy ?_;refine dG (dL [.row (.slice A' 1 c') 151 2 1 [.int .i64 n,.int .i64 s]] rfl (.cons _ (.cons _ Kl)) (dz dw) ?_);refine⟨_,by rw[hput];rfl,[.int .i64 n,.int .i64 s],?_,by rw[hput];rfl⟩;rw[hput];exact .one ⟨rfl,in1,is1⟩ rfl
 have hl4:0 < l.length:=by simp at h4;exact List.length_pos_iff.2 h4
 obtain⟨p,hp⟩:∃ p,l[l.length - 1]?=some p:=⟨l[l.length - 1],getElem?_eq_getElem (by omega)⟩;rw[hp]at hput;dsimp only at hput;intros;refine dy ?_;refine ei (kI (v:=u) (et:=151) (sz:=2) (n:=l.length) (xs:=ys) (by simp) hl4) ?_;rintro h' ⟨rfl,g,cu,rfl,hc1,hc2⟩;obtain⟨cs,⟨rfl,ip1,ip2⟩,_,hld⟩:=hys.get hp;intros;refine gR2 36 41 c70r6.eq_1 (F3 l.length hl4 (by omega)) ?_;refine⟨by omega,_,rfl,?_⟩
 have hrow:Item.row (Value.slice (some ⟨g,0,none⟩) l.length cu) 151 2 l.length ys∈[Item.reg 9 [Value.int IntKind.i64 n,Value.int IntKind.i64 s],Item.row (Value.slice (some ⟨g,0,none⟩) l.length cu) 151 2 l.length ys]:=by simp
 have hlp:ys.length=l.length * 2:=hys.len;intros;refine gR2 46 52 c70r7.eq_1 @Nat.zero_add ?_;refine⟨_,eV hrow (hld 0 _ rfl),?_⟩;refine sI ?_;intros;refine gC ?_;refine gb (fun h5=>?_) (fun h5=>?_)
 ·intros;refine gR 0 0 c70r8.eq_1 ?_;intros;refine dy ?_;refine dG (herr 100 ?_ _ (eE) (eE) _ rfl);rw[hput,if_pos (by simpa using h5)]
 rw[if_neg (by simpa using h5)]at hput;intros;refine gR2 53 59 c70r9.eq_1 @Nat.zero_add ?_;refine⟨_,eV hrow (hld 0 _ rfl),?_⟩;refine sI ?_;have hend:∀ (e:Env) (u:Value) (zs:List Ep) (zc:J6) (L1 L2:J8) (_:iq l n s=(zs,0)) (_:Cells EpE 2 zs zc) (_:e 8=u),
   go none Tryz.prog 77 v70.1 v70.2 (gl o70 fun v h=>Ck l n s h.L v) [Td.s (SC.reg false c70r15),Td.s SC.ret] e ⟨G',L1++.row u 151 2 zs.length zc :: L2,[]⟩:=fun e u zs zc L1 L2 h6 h7 h8=>by
  intros;refine gR2 76 77 c70r15.eq_1 @h8 ?_;intros;refine dy ?_;refine dG (dL [.row u 151 2 zs.length zc] rfl (by
   refine List.Sublist.trans ?_ (List.sublist_append_right _ _)
   simp) (dz dw) ?_)
  exact⟨_,by rw[h6];rfl,zc,by rw[h6];exact h7,by rw[h6];rfl⟩
 intros;refine gC ?_;refine gb (fun h6=>?_) (fun h6=>?_)
 ·intros;refine dy ?_;rw[if_pos (by simpa using h6)]at hput;exact hend _ (.slice (some ⟨g,0,none⟩) l.length cu) l ys [_] [] hput hys rfl
 rw[if_neg (by simpa using h6)]at hput;intros;refine gR2 60 66 c70r10.eq_1 @Nat.zero_add ?_;refine⟨_,eV hrow (hld 1 _ rfl),?_⟩;refine sI ?_;intros;refine gC ?_;refine gb (fun h7=>?_) (fun h7=>?_)
 ·intros;refine gR 0 0 c70r11.eq_1 ?_;intros;refine dy ?_;refine dG (herr 71 ?_ _ (eE) (eE) _ rfl);rw[hput,if_pos (by simpa using h7)]
 rw[if_neg (by simpa using h7)]at hput;intros;refine gR2 67 73 c70r12.eq_1 @Nat.zero_add ?_;refine⟨_,eV hrow (hld 1 _ rfl),?_⟩;refine sI ?_;intros;refine gC ?_;refine gb (fun h8=>?_) (fun h8=>?_)
 ·rw[if_pos (by simpa using h8)]at hput;intros;refine gR2 73 76 c70r13.eq_1 @Nat.zero_add ?_;refine fQ [Item.reg 9 [Value.int IntKind.i64 n,Value.int IntKind.i64 s]] [] rfl (by rw[hlp];simp;omega) ⟨rfl,rfl⟩ ?_;refine sI ?_;intros;refine dy ?_
  have hz:=fun e he=>hend e (.slice (some ⟨g,0,none⟩) l.length cu) _ _ [.reg 9 [.int .i64 n,.int .i64 s]] [] hput (hys.set (k:=l.length - 1) (x:=(n,s)) (by omega) ⟨rfl,in1,is1⟩ rfl) he
  simp only[List.length_set]at hz;exact hz _ rfl
 ·rw[if_neg (by simpa using h8)]at hput;intros;refine gR 41 45 c70r14.eq_1 ?_;intro b hb';refine⟨[.row (.slice (some ⟨b,0,none⟩) 1 1) 151 2 1 [.int .i64 n,.int .i64 s],.reg 9 [.int .i64 n,.int .i64 s]],l.length,ys,[],1,[.int .i64 n,.int .i64 s],.inl rfl,kX (.head _) ?_ rfl,by unfold maxLen;omega,fun A' c'=>?_⟩
  ·intro u hu;simp at hu;rcases hu with rfl | rfl <;> rfl
  ·refine sI ?_;intros;refine dy ?_;have hz:=fun e he=>hend e (.slice A' (l.length+1) c') _ _ [.row (.slice (some ⟨b,0,none⟩) 1 1) 151 2 1 [.int .i64 n,.int .i64 s],.reg 9 [.int .i64 n,.int .i64 s]] [] hput (hys.app (.one ⟨rfl,in1,is1⟩ rfl)) he
   simp only[length_append,length_cons,List.length_nil,Nat.zero_add]at hz;exact hz _ rfl
end Go.Proofs.YtpmofpekcbghnaaGreat

/- Parts of a proof, 31 texts in one file. No condition. -/
import Derived.Test.YtpmofpekcbghnaaGreatRows
import Derived.WalkKit
import Derived.ProofKit
import Derived.OpenShut
import Derived.ShutString
import Derived.ChangeOld
import Derived.ChangeSame
import Derived.Below
import Derived.Test.YtpmofpekcbghnaaGreatM1
import Derived.Test.YtpmofpekcbghnaaGreatM2
import Derived.Test.YtpmofpekcbghnaaGreatM3
import Derived.Test.YtpmofpekcbghnaaGreatM4
import Derived.Test.YtpmofpekcbghnaaGreatM5
set_option linter.unusedSimpArgs false
set_option linter.unusedVariables false
namespace Go.Proofs.YtpmofpekcbghnaaGreat
open Go Go.Kx Go.ChangeShapes Go.WideShapes Go.ChangeAt Go.RowKit
open List (getElem?_eq_getElem mem_of_getElem? length_append take_length append_nil)
theorem own:ownKnob Tryz.prog.godebug=none:=by kernel_rfl
theorem vJ:laidOutB Tryz.prog=true:=by kernel_rfl
theorem uB(W:World):ia Tryz.prog W 5 UE:=(fU Tryz.underlying5).mono fun n cs ⟨h1,h2⟩=>⟨UInt8.ofNat n.toNat,by rw[UE,← Hy h2];exact h1⟩
theorem rq(W:World):ia Tryz.prog W 118 (fun(l:J3) cs=>∃ A c,cs=[.slice A l.length c]∧l.length≤c∧c≤maxLen∧SlA (pm W) UE 1 A l) :=
 iJ Tryz.underlying118 (by kernel_rfl) (uB W)
end Go.Proofs.YtpmofpekcbghnaaGreat
namespace Go.Proofs.YtpmofpekcbghnaaGreat
open Go Go.Kx
open List (getElem?_eq_getElem mem_of_getElem? length_append take_length append_nil)
theorem F210:Fun Tryz.prog 210 11 v210 c210 o210:=Fun.mkA Tryz.func210 Tryz.ntmps210
theorem F196:Fun Tryz.prog 196 44 v196 c196 o196:=Fun.mkA Tryz.func196 Tryz.ntmps196
theorem F207:Fun Tryz.prog 207 48 v207 c207 o207:=Fun.mkA Tryz.func207 Tryz.ntmps207
theorem F226:Fun Tryz.prog 226 25 v226 c226 o226:=Fun.mkA Tryz.func226 Tryz.ntmps226
theorem lR{a:Nat}(ha:a < 18446744073709551616):(BitVec.ofInt 64 (a:Int)).toNat=a:=by
 rw[BitVec.ofInt_natCast,BitVec.toNat_ofNat];exact Nat.mod_eq_of_lt ha
theorem lq{a:Nat}(ha:a < 18446744073709551616):IntKind.u64.wrap (a:Int)=(a:Int):=by
 rw[IntKind.wrap_u64];omega
theorem yi{a b:Nat}(ha:a < 18446744073709551616)(hb:b < 18446744073709551616):fl .and (.int .u64 (a:Int)) (.int .u64 (b:Int))=some (.int .u64 ((a &&& b:Nat):Int)):=by
 simp only[fl];rw[if_pos trivial];have:(BitVec.ofInt IntKind.u64.bits (a:Int) &&& BitVec.ofInt IntKind.u64.bits (b:Int)).toNat=a &&& b:=by
  show(BitVec.ofInt 64 (a:Int) &&& BitVec.ofInt 64 (b:Int)).toNat=_;rw[BitVec.toNat_and,lR ha,lR hb]
 rw[this,lq (Nat.lt_of_le_of_lt Nat.and_le_left ha)]
theorem tc{a b:Nat}(ha:a < 18446744073709551616)(hb:b < 18446744073709551616):fl .or (.int .u64 (a:Int)) (.int .u64 (b:Int))=some (.int .u64 ((a ||| b:Nat):Int)):=by
 simp only[fl];rw[if_pos trivial];have:(BitVec.ofInt IntKind.u64.bits (a:Int) ||| BitVec.ofInt IntKind.u64.bits (b:Int)).toNat=a ||| b:=by
  show(BitVec.ofInt 64 (a:Int) ||| BitVec.ofInt 64 (b:Int)).toNat=_
  rw[BitVec.toNat_or,lR ha,lR hb]
 rw[this,lq];exact Nat.or_lt_two_pow (n:=64) ha hb
theorem qB{a s:Nat}(hs:s≤64)(h:a * 2 ^ s < 18446744073709551616)(k:IntKind):fl .shl (.int .u64 (a:Int)) (.int k (s:Int))=some (.int .u64 ((a * 2 ^ s:Nat):Int)):=by
 simp only[fl];rw[if_pos (by omega)];have h1:min ((s:Int)).toNat IntKind.u64.bits=s:=by simp[IntKind.bits];omega
 rw[h1];have h2:(a:Int) * 2 ^ s=((a * 2 ^ s:Nat):Int):=by push_cast;rfl
 rw[h2,lq h]
theorem tD{a b n:Nat}(hb:b < 2 ^ n):a * 2 ^ n ||| b=a * 2 ^ n+b:=by
 rw[Nat.mul_comm];exact(Nat.two_pow_add_eq_or_of_lt hb a).symm
theorem C3(x:UInt8):fl .and (.int .u8 (x.toNat:Int)) (.int .u8 127)=some (.int .u8 ((x.toNat % 128:Nat):Int)):=by
 have key:∀ b:Fin 256,(BitVec.ofInt 8 ((b.val:Nat):Int) &&& BitVec.ofInt 8 127).toNat=b.val % 128:=by decide +kernel
 have h2:=key ⟨x.toNat,x.toNat_lt⟩;simp only[fl];rw[if_pos trivial];have h3:(BitVec.ofInt IntKind.u8.bits (x.toNat:Int) &&& BitVec.ofInt IntKind.u8.bits 127).toNat=x.toNat % 128:=h2;rw[h3,IntKind.wrap_u8];congr 2;omega
theorem Eg(x:Nat)(hx:x < 256):IntKind.u64.wrap (x:Int)=(x:Int):=lq (by omega)
theorem uz{α:Type}{E:α→JU→Prop}{G:JT}{sz:Nat}{P:Program}{d:Nat}{l:JV}{e:Env}{h:H}{K:J7}{A:JY}{n c:Nat}{xs:List α}{lw u m:Int}(lo hi mx:Nat)(hl:SlV G E sz (.slice A n c) xs)(h1:lw=lo)(h2:u=hi)(h3:m=mx)
  (h4:lo≤hi∧hi≤xs.length∧hi≤mx∧mx≤c) (hk:∀ B,SlV G E sz (.slice B ((xs.take hi).drop lo).length (mx - lo)) ((xs.take hi).drop lo)→kR P l d e K (.slice B ((xs.take hi).drop lo).length (mx - lo)) h):slY P A c (some lw) (some u) (some m) sz d l e h K:=by
 subst h1 h2 h3;obtain⟨A',c',he,hc,hm,hA⟩:=hl;cases he;have hlen:((xs.take hi).drop lo).length=hi - lo:=by simp;omega
 refine⟨by omega,?_⟩;have:=hk (if ((mx:Nat):Int).toNat=((lo:Nat):Int).toNat then A else A.map (·.add (((lo:Nat):Int).toNat * sz))) ⟨_,_,rfl,by omega,by omega,?_⟩
 ·rw[hlen]at this;simpa using this
 ·refine hA.cut (by omega) fun hlt=>?_
  rw[if_neg (by simp;omega)];simp
theorem SlV.pre{α:Type}{E:α→JU→Prop}{G:JT}{sz:Nat}{A:JY}{n c:Nat}{xs:List α}(hi:Nat)(hl:SlV G E sz (.slice A n c) xs)(h:hi≤xs.length):SlV G E sz (.slice A hi c) (xs.take hi):=by
 obtain⟨A',c',he,hc,hm,hA⟩:=hl;cases he;have hlen:(xs.take hi).length=hi:=by simp;omega
 refine⟨A,c,by rw[hlen],by omega,hm,?_⟩;have:=hA.cut (l:=0) (n:=hi) (B:=A) h fun _=>by cases A <;> simp[Addr.add]
 simpa using this
def kH(l:J3):Nat:=l.foldl (fun n x=>n * 256+x.toNat) 0
theorem wh:∀ (l:J3) (n k:Nat),n < 256 ^ k→l.foldl (fun n x=>n * 256+x.toNat) n < 256 ^ (k+l.length)
 | [],n,k,h=>by simpa using h
 | x :: l,n,k,h=>by
  have hx:=x.toNat_lt;have:=wh l (n * 256+x.toNat) (k+1) (by rw[Nat.pow_succ];omega);rw[List.foldl_cons,List.length_cons,show k+(l.length+1)=k+1+l.length by omega];exact this
theorem xg(l:J3):kH l < 256 ^ l.length:=by
 have:=wh l 0 0 (by simp);simpa [kH]using this
theorem qU{l:J3}{k:Nat}{x:UInt8}(hx:l[k]?=some x):kH (l.take (k+1))=kH (l.take k) * 256+x.toNat:=by
 have h:=List.getElem?_eq_some_iff.1 hx;rw[List.take_succ_eq_append_getElem h.1,h.2];simp[kH]
theorem AN{l:J3}(h:l.length≤7):kH l < 72057594037927936:=by
 have:=xg l;have h2:256 ^ l.length≤256 ^ 7:=Nat.pow_le_pow_right (by decide) h;omega
def ig(l:J3)(a:Int)(k:Nat):Nat × Int:=if a < 0 then(0,1)else if (l.drop a.toNat).length < k then(0,10)else(kH ((l.drop a.toNat).take k),0)
theorem vQ(l:J3)(a:Nat)(v:Value)(G:JT)(hl:SB G v l):FnE Tryz.prog 210 #[v,.int .i64 (a:Int)] G (fun r=>SB G r (l.drop a)):=by
 obtain⟨A,c,rfl,hA⟩:=id hl;refine F210.fnE (by simp) (d7 ?_);unfold c210;intros;refine gR 0 0 c210r0.eq_1 ?_;have hmin:min (a:Int) l.length=((min a l.length:Nat):Int):=by omega
 intros;refine gR2 5 11 c210r1.eq_1 @hmin ?_;refine uz (min a l.length) l.length c hl rfl rfl rfl (by have:=hA.1;omega) fun B hB=>?_
 have he:(l.take l.length).drop (min a l.length)=l.drop a:=by
  rw[take_length];by_cases h:a≤l.length
  ·rw[Nat.min_eq_left h]
  ·rw[Nat.min_eq_right (by omega),List.drop_length,List.drop_of_length_le (by omega)]
 rw[he]at hB ⊢;refine sI ?_;intros;refine rW ?_;exact hB
theorem tC{l:J3}{a:Int}{k:Nat}(h:a < 0):ig l a k=(0,1):=if_pos h
theorem jN(l:J3)(a k:Nat):ig l (a:Int) k=if (l.drop a).length < k then(0,10)else(kH ((l.drop a).take k),0):=by
 rw[ig,if_neg (by omega)];rfl
theorem vR(l:J3)(a:Int)(k:Nat)(hk:1≤k∧k≤8)(v:Value)(G:JT)(hl:SB G v l):
  FnS Tryz.prog 196 #[v,.int .i64 a,.int .i64 (k:Int)] G (.tuple #[.int .u64 ((ig l a k).1:Int),.int .i64 (ig l a k).2]):=by
 obtain⟨A,c,rfl,hA⟩:=id hl;refine F196.fnS (by simp) (d7 ?_);unfold c196;intros;refine gR 0 0 c196r0.eq_1 ?_;intros;refine gR 12 21 c196r1.eq_1 ?_;refine gd (fun h1=>absurd (Kb h1) (by omega)) (fun h1=>?_);refine sI ?_;have h2:decide ((8:Int) < (k:Int))=false:=decide_eq_false (by omega);refine sJ @h2 ?_;intros;refine gC ?_;refine gbD (fun h3=>?_) (fun h3=>?_)
 ·intros;refine gR 0 0 c196r2.eq_1 ?_;intros;refine rW ?_;rw[tC h3];rfl
 obtain⟨a,rfl⟩:∃ n:Nat,a=n:=⟨a.toNat,by omega⟩;rw[jN];intros;refine gN ?_;intros;refine gR 22 25 c196r3.eq_1 ?_;refine(vQ l a _ G hl _ _).mono ?_;rintro r h' ⟨hr,rfl⟩;generalize l.drop a=m at hr ⊢;obtain⟨B,d,rfl,hB⟩:=id hr;refine sI ?_;intros;refine gR 25 28 c196r4.eq_1 ?_;intros;refine gC ?_;refine gbD (fun h4=>?_) (fun h4=>?_)
 ·intros;refine gR 0 0 c196r5.eq_1 ?_;intros;refine rW ?_;rw[if_pos (by omega)];rfl
 rw[if_neg (by omega)];intros;refine gN ?_;intros;refine gR 0 0 c196r6.eq_1 ?_;intros;refine gR 29 31 c196r7.eq_1 ?_;refine⟨by have:=hB.1;omega,?_⟩;intros;refine dT ?_;have hC:=SlV.pre k hr (by omega);generalize hm:m.take k=x at hC ⊢;have hxl:x.length=k:=by rw[← hm];simp;omega
 obtain⟨B',d',he,hd',hm',hC⟩:=hC;cases he;refine ej (fun e h=>∃ (i:Nat),i≤x.length∧e 33=.int .i64 i∧e 32=.int .i64 x.length∧e 31=.slice B x.length d∧e 9=.int .u64 (kH (x.take i):Int)∧h=⟨G,[],[]⟩) (fun e h=>x.length - iv (e 33)) ?_ ?_
 ·exact⟨0,Nat.zero_le _,eE,eE,eE,by refine sI ?_;rfl,rfl⟩
 ·rintro e h ⟨i,hi,e33,e32,e31,e9,rfl⟩;refine dX [9,31,32,33] ?_;refine sJ4 @e9 @e31 @e32 @e33 ?_;intros;refine gR 0 0 c196r8.eq_1 ?_;intros;refine gC ?_;refine gb (fun ht=>?_) (fun ht=>?_)
  ·have ht:i < x.length:=by simpa using ht
   obtain⟨y,hy⟩:∃ y,x[i]?=some y:=⟨x[i],getElem?_eq_getElem (by omega)⟩;have hw:=eY i x.length ht (by unfold maxLen;omega);have h7:kH (x.take i) < 72057594037927936:=AN (by simp;omega);have hyl:=y.toNat_lt;have hs:fl .shl (.int .u64 (kH (x.take i):Int)) (.int .u64 8)=some (.int .u64 ((kH (x.take i) * 2 ^ 8:Nat):Int)):=qB (s:=8) (by omega) (by omega) .u64
   have ho:fl .or (.int .u64 ((kH (x.take i) * 2 ^ 8:Nat):Int)) (.int .u64 (y.toNat:Int))=some (.int .u64 (kH (x.take (i+1)):Int)):=by
    rw[tc (by omega) (by omega),tD (n:=8) (by omega),qU hy]
   generalize hq:kH (x.take i) * 2 ^ 8=q at hs ho;intros;refine gN ?_;intros;refine gR 35 37 c196r9.eq_1 ?_;refine hC.x_l1 hy rfl rfl ?_;rintro a1 ha1 u hu;cases hu;refine sI ?_;intros;refine gr 37 42 ?_;(refine sJ4 c196r10.eq_1 @hs (Eg y.toNat hyl) @ho ?_);intros;refine gR2 42 43 c196r11.eq_1 @hw ?_;intros;refine dT ?_;refine eC ⟨⟨i+1,by omega,eE,eE,eE,eE,rfl⟩,?_⟩;refine sI ?_;omega
  ·have ht:i=x.length:=by simp at ht;omega
   subst ht;refine eg ?_;refine sI ?_;intros;refine gR 43 44 c196r12.eq_1 ?_;intros;refine rW ?_;rw[List.take_of_length_le (by omega)]
theorem tb(l:J3)(a:Int)(k:Nat)(hk:1≤k∧k≤8)(v:Value)(G:JT)(hl:SB G v l):
  FnS Tryz.prog 207 #[v,.int .i64 a,.int .i64 (k:Int)] G (.tuple #[.int .u64 ((ig l a k).1:Int),.int .i64 (ig l a k).2]):=by
 obtain⟨A,c,rfl,hc,hm,hA⟩:=id hl;refine F207.fnS (by simp) (d7 ?_);unfold c207;unfold maxLen at hm;intros;refine gR 0 0 c207r0.eq_1 ?_;intros;refine gR 10 19 c207r1.eq_1 ?_;refine gd (fun h1=>absurd (Kb h1) (by omega)) (fun h1=>?_);refine sI ?_;have h2:decide ((8:Int) < (k:Int))=false:=decide_eq_false (by omega);refine sJ @h2 ?_;intros;refine gC ?_;refine gbD (fun h3=>?_) (fun h3=>?_)
 ·intros;refine gR 0 0 c207r2.eq_1 ?_;intros;refine rW ?_;rw[tC h3];rfl
 obtain⟨a,rfl⟩:∃ n:Nat,a=n:=⟨a.toNat,by omega⟩;rw[jN]
 have hbad:(l.drop a).length < k→∀ (fr:J0) (e:Env),go none Tryz.prog 48 v207.1 v207.2 (fB o207 fun v h=>v=.tuple #[.int .u64 ((if (l.drop a).length < k then((0:Nat),(10:Int))else(kH ((l.drop a).take k),0)).1:Int),.int .i64 (if (l.drop a).length < k then((0:Nat),(10:Int))else(kH ((l.drop a).take k),0)).2]) (Td.s ((SC.reg false c207r4).seq .ret) :: fr) e ⟨G,[],[]⟩:=fun hx fr e=>by
  intros;refine gR 0 0 c207r4.eq_1 ?_;intros;refine rW ?_;rw[if_pos hx];rfl
 intros;refine gN ?_;intros;refine gR 20 31 c207r3.eq_1 ?_;refine gdD (fun h4=>?_) (fun h4=>?_)
 ·refine sI ?_;intros;refine gC ?_;exact hbad (by simp;omega) _ _
 have w1:IntKind.i64.wrap ((l.length:Int) - a)=(l.length:Int) - a:=by rw[eh] <;> omega
 refine sJ @w1 ?_;intros;refine gC ?_;refine gbD (fun h5=>?_) (fun h5=>?_)
 ·exact hbad (by simp;omega) _ _
 clear hbad;rw[if_neg (by simp;omega)];generalize hm:l.drop a=m;have hml:k≤m.length:=by rw[← hm];simp;omega
 intros;refine gN ?_;intros;refine gR 0 0 c207r5.eq_1 ?_;intros;refine gR 0 0 c207r6.eq_1 ?_;intros;refine dT ?_;refine ej (fun e h=>∃ (i:Nat),i≤k∧e 33=.int .i64 i∧e 32=.int .i64 k∧e 0=.slice A l.length c∧e 1=.int .i64 (a:Int)∧e 8=.int .u64 (kH (m.take i):Int)∧h=⟨G,[],[]⟩) (fun e h=>k - iv (e 33)) ?_ ?_
 ·exact⟨0,Nat.zero_le _,eE,eE,eE,eE,by refine sI ?_;rfl,rfl⟩
 ·rintro e h ⟨i,hi,e33,e32,e0,e1,e8,rfl⟩;refine dX [0,1,8,32,33] ?_;refine sJ5 @e0 @e1 @e8 @e32 @e33 ?_;intros;refine gR 0 0 c207r7.eq_1 ?_;intros;refine gC ?_;refine gb (fun ht=>?_) (fun ht=>?_)
  ·have ht:i < k:=by simpa using ht
   obtain⟨y,hy⟩:∃ y,m[i]?=some y:=⟨m[i],getElem?_eq_getElem (by omega)⟩;have hy':l[a+i]?=some y:=by rw[← hm,List.getElem?_drop]at hy;exact hy
   have hw:=eY i k ht (by unfold maxLen;omega);have h7:kH (m.take i) < 72057594037927936:=AN (by simp;omega);have hyl:=y.toNat_lt;have w2:IntKind.i64.wrap ((a:Int)+i)=((a+i:Nat):Int):=by rw[eh] <;> omega
   have w3:IntKind.u64.wrap (IntKind.u64.wrap ((kH (m.take i):Int) * 256)+(y.toNat:Int))=(kH (m.take (i+1)):Int):=by
    rw[qU hy,IntKind.wrap_u64,IntKind.wrap_u64];omega
   intros;refine gN ?_;intros;refine gR 35 36 c207r8.eq_1 ?_;intros;refine gr 36 46 ?_;refine sJ3 c207r9.eq_1 @w2 @mV ?_;refine hA.x_l1 hy' (by omega) rfl ?_;rintro a1 ha1 u hu;cases hu
   (refine sJ3 (Eg y.toNat hyl) @pn @w3 ?_)
   intros;refine gR2 46 47 c207r10.eq_1 @hw ?_;intros;refine dT ?_;refine eC ⟨⟨i+1,by omega,eE,eE,eE,eE,eE,rfl⟩,?_⟩;refine sI ?_;omega
  ·have ht:i=k:=by simp at ht;omega
   subst ht;refine eg ?_;refine sI ?_;intros;refine gR 47 48 c207r11.eq_1 ?_;intros;refine rV ?_;simp only[push_cast,Nat.reduceBEq]
def rb(l:J3)(a:Nat):Bool × Int × Int:=match l[a]? with
 | none=>(false,0,10)
 | some x=>if 1 < x.toNat then(false,0,11)else(decide (x.toNat=1),a+1,0)
theorem CJ(l:J3)(a:Nat)(v:Value)(G:JT)(hl:SB G v l):
  FnS Tryz.prog 226 #[v,.int .i64 (a:Int)] G (.tuple #[.bool (rb l a).1,.int .i64 (rb l a).2.1,.int .i64 (rb l a).2.2]):=by
 obtain⟨A,c,rfl,hc,hm,hA⟩:=id hl;refine F226.fnS (by simp) (d7 ?_);unfold c226;intros;refine gR 0 0 c226r0.eq_1 ?_;intros;refine gR 8 12 c226r1.eq_1 ?_;intros;refine gC ?_;refine gbD (fun h1=>?_) (fun h1=>?_)
 ·intros;refine gR 0 0 c226r2.eq_1 ?_;intros;refine rW ?_;rw[rb,List.getElem?_eq_none (by omega)]
 obtain⟨y,hy⟩:∃ y,l[a]?=some y:=⟨l[a]'(by omega),getElem?_eq_getElem _⟩;rw[rb,hy];dsimp only;intros;refine gR 13 18 c226r3.eq_1 ?_;refine hA.x_l1 hy rfl rfl ?_;rintro a1 ha1 u hu;cases hu;refine sI ?_;intros;refine gC ?_;refine gbD (fun h2=>?_) (fun h2=>?_)
 ·intros;refine gR 0 0 c226r4.eq_1 ?_;intros;refine rW ?_;rw[if_pos (by omega)]
 rw[if_neg (by omega)];have hw:=eY a l.length (by omega) (by omega);intros;refine gN ?_;intros;refine gR2 18 25 c226r5.eq_1 @hw ?_;refine hA.x_l1 hy rfl rfl ?_;rintro a1 ha1 u hu;cases hu;refine sJ @hw ?_;intros;refine rW ?_;congr 3;simp;omega
theorem F213:Fun Tryz.prog 213 58 v213 c213 o213:=Fun.mkA Tryz.func213 Tryz.ntmps213
theorem F218:Fun Tryz.prog 218 73 v218 c218 o218:=Fun.mkA Tryz.func218 Tryz.ntmps218
theorem F222:Fun Tryz.prog 222 45 v222 c222 o222:=Fun.mkA Tryz.func222 Tryz.ntmps222
theorem F228:Fun Tryz.prog 228 43 v228 c228 o228:=Fun.mkA Tryz.func228 Tryz.ntmps228
def gvL:Nat→Nat→J3→Int × Nat × Nat
 | _,_,[]=>(10,0,0)
 | i,z,x :: xs=>if (i=9∧1 < x.toNat)∨(0 < i∧x.toNat=0)then(11,0,0)else if x.toNat < 128 then(0,z+128 ^ i * (x.toNat % 128),i+1)else gvL (i+1) (z+128 ^ i * (x.toNat % 128)) xs
def zag(z:Nat):Int:=if z % 2=0 then((z / 2:Nat):Int)else -((z / 2:Nat):Int) - 1
def fC(l:J3)(a:Int):Int × Int × Int:=if a < 0 then(0,0,1)else if (gvL 0 0 (l.drop a.toNat)).1=0 then(zag (gvL 0 0 (l.drop a.toNat)).2.1,a+(gvL 0 0 (l.drop a.toNat)).2.2,0)else(0,0,(gvL 0 0 (l.drop a.toNat)).1)
theorem xq(i z:Nat):gvL i z []=(10,0,0):=rfl
theorem pd{i z:Nat}{x:UInt8}{xs:J3}(h:(i=9∧1 < x.toNat)∨(0 < i∧x.toNat=0)):gvL i z (x :: xs)=(11,0,0):=by rw[gvL,if_pos h]
theorem l4{i z:Nat}{x:UInt8}{xs:J3}(h:¬ ((i=9∧1 < x.toNat)∨(0 < i∧x.toNat=0)))(h2:x.toNat < 128):gvL i z (x :: xs)=(0,z+128 ^ i * (x.toNat % 128),i+1):=by rw[gvL,if_neg h,if_pos h2]
theorem lC{i z:Nat}{x:UInt8}{xs:J3}(h:¬ ((i=9∧1 < x.toNat)∨(0 < i∧x.toNat=0)))(h2:¬ x.toNat < 128):gvL i z (x :: xs)=gvL (i+1) (z+128 ^ i * (x.toNat % 128)) xs:=by rw[gvL,if_neg h,if_neg h2]
theorem H5{i:Nat}(h:i≤9):128 ^ i≤9223372036854775808:=by
 have:128 ^ i≤128 ^ 9:=Nat.pow_le_pow_right (by decide) h;omega
theorem Fu{i:Nat}(h:i≤8):128 ^ i≤72057594037927936:=by
 have:128 ^ i≤128 ^ 8:=Nat.pow_le_pow_right (by decide) h;omega
theorem sv{i z x:Nat}(hi:i≤9)(hz:z < 128 ^ i)(hx:¬ (i=9∧1 < x))(hx2:x < 256):128 ^ i * (x % 128) < 18446744073709551616∧z+128 ^ i * (x % 128) < 18446744073709551616∧(i≤8→z+128 ^ i * (x % 128) < 128 ^ (i+1)):=by
 have h128:x % 128≤127:=by omega
 have h1:128 ^ i * (x % 128)≤128 ^ i * 127:=Nat.mul_le_mul_left _ h128;have h3:128 ^ (i+1)=128 ^ i * 128:=Nat.pow_succ ..;by_cases h9:i=9
 ·subst h9;have:x≤1:=by omega
  have h4:128 ^ 9 * (x % 128)≤128 ^ 9 * 1:=Nat.mul_le_mul_left _ (by omega);omega
 ·have:=Fu (show i≤8 by omega);omega
theorem AE:∀ (m:J3) (i z:Nat),i≤9→z < 128 ^ i→(gvL i z m).1=0→(gvL i z m).2.1 < 18446744073709551616∧i < (gvL i z m).2.2∧(gvL i z m).2.2≤i+m.length
 | [],i,z,_,_,h=>by simp[gvL]at h
 | x :: xs,i,z,hi,hz,h=>by
  by_cases h1:(i=9∧1 < x.toNat)∨(0 < i∧x.toNat=0)
  ·rw[pd h1]at h;cases h
  ·obtain⟨s1,s2,s3⟩:=sv hi hz (fun h=>h1 (.inl h)) x.toNat_lt;by_cases h2:x.toNat < 128
   ·rw[l4 h1 h2];exact⟨s2,by simp,by simp⟩
   ·have hi8:i≤8:=by omega
    rw[lC h1 h2]at h ⊢;obtain⟨a,b,c⟩:=AE xs (i+1) _ (by omega) (s3 hi8) h;refine⟨a,by omega,by simp;omega⟩
theorem IN{z:Nat}(h:z < 18446744073709551616):I64 (zag z):=by
 unfold zag I64;split <;> omega
theorem Cd{z:Nat}(hz:z < 18446744073709551616):fl .xor (.int .i64 ((z / 2:Nat):Int)) (.int .i64 (IntKind.i64.wrap (0 - ((z % 2:Nat):Int))))=some (.int .i64 (zag z)):=by
 have key:IntKind.i64.wrap (((BitVec.ofInt 64 ((z / 2:Nat):Int) ^^^ BitVec.ofInt 64 (IntKind.i64.wrap (0 - ((z % 2:Nat):Int)))).toNat:Nat):Int)=zag z:=by
  by_cases h0:z % 2=0
  ·have e2:IntKind.i64.wrap (0 - ((z % 2:Nat):Int))=0:=by rw[h0];rfl
   rw[e2];have:BitVec.ofInt 64 0=0#64:=rfl;rw[this,BitVec.xor_zero,lR (by omega),zag,if_pos h0,eh];omega
  ·have e2:IntKind.i64.wrap (0 - ((z % 2:Nat):Int))=-1:=by rw[show z % 2=1 by omega];rfl
   rw[e2];have:BitVec.ofInt 64 (-1)=BitVec.allOnes 64:=by decide
   rw[this,BitVec.xor_allOnes,BitVec.toNat_not,lR (by omega),zag,if_neg h0,IntKind.wrap_i64];omega
 simp only[fl];rw[if_pos trivial];exact congrArg (fun n=>some (Value.int .i64 n)) key
theorem sp(z:Nat):fl .shr (.int .u64 (z:Int)) (.int .u64 1)=some (.int .u64 ((z / 2:Nat):Int)):=by
 simp[fl,IntKind.bits];rw[Int.fdiv_eq_ediv_of_nonneg _ (by omega)]
theorem rE{z:Nat}(hz:z < 18446744073709551616):fl .and (.int .u64 (z:Int)) (.int .u64 1)=some (.int .u64 ((z % 2:Nat):Int)):=by
 have:=yi (b:=1) hz (by omega);rw[Nat.and_one_is_mod]at this;exact this
theorem ls(l:J3)(a:Int)(v:Value)(G:JT)(hl:SB G v l):
  FnS Tryz.prog 213 #[v,.int .i64 a] G (.tuple #[.int .i64 (fC l a).1,.int .i64 (fC l a).2.1,.int .i64 (fC l a).2.2]):=by
 obtain⟨A,c,rfl,hc,hm,hA⟩:=id hl;unfold maxLen at hm;refine F213.fnS (by simp) (d7 ?_);unfold c213;intros;refine gR 0 0 c213r0.eq_1 ?_;intros;refine gR 10 11 c213r1.eq_1 ?_;intros;refine gC ?_;refine gbD (fun h1=>?_) (fun h1=>?_)
 ·intros;refine gR 0 0 c213r2.eq_1 ?_;intros;refine rW ?_;rw[fC,if_pos h1]
 obtain⟨a,rfl⟩:∃ n:Nat,a=n:=⟨a.toNat,by omega⟩;have hgv:fC l (a:Int)=if (gvL 0 0 (l.drop a)).1=0 then(zag (gvL 0 0 (l.drop a)).2.1,(a:Int)+(gvL 0 0 (l.drop a)).2.2,0)else(0,0,(gvL 0 0 (l.drop a)).1):=by
  rw[fC,if_neg h1];rfl
 have hdl:a+(l.drop a).length≤l.length∨l.drop a=[]:=by
  by_cases h:a≤l.length
  ·left;simp;omega
  ·right;exact List.drop_of_length_le (by omega)
 rw[hgv];intros;refine gN ?_;intros;refine gR 0 0 c213r3.eq_1 ?_;intros;refine gR 12 14 c213r4.eq_1 ?_;refine(vQ l a _ G hl _ _).mono ?_;rintro r h' ⟨hr,rfl⟩;generalize hm0:l.drop a=m at hr hdl ⊢;obtain⟨B,d,rfl,hd,hdm,hB⟩:=hr;refine sI ?_;intros;refine dT ?_
 refine ej (fun e h=>∃ (i z:Nat),(i≤m.length∧i≤9∧z < 128 ^ i∧gvL 0 0 m=gvL i z (m.drop i))∧e 16=.int .i64 i∧e 15=.int .i64 m.length∧e 14=.slice B m.length d∧e 7=.int .u64 (z:Int)∧e 1=.int .i64 (a:Int)∧h=⟨G,[],[]⟩) (fun e h=>m.length - iv (e 16)) ?_ ?_
 ·exact⟨0,0,⟨Nat.zero_le _,by omega,by simp,by simp⟩,eE,eE,eE,eE,eE,rfl⟩
 ·rintro e h ⟨i,z,⟨hi,hi9,hz,heq⟩,e16,e15,e14,e7,e1,rfl⟩;refine dX [1,7,14,15,16] ?_;refine sJ5 @e1 @e7 @e14 @e15 @e16 ?_;intros;refine gR 0 0 c213r5.eq_1 ?_;intros;refine gC ?_;refine gb (fun ht=>?_) (fun ht=>?_)
  ·have ht:i < m.length:=by simpa using ht
   have hal:a+m.length≤l.length:=by
    rcases hdl with h | h
    ·exact h
    ·rw[h]at ht;simp at ht
   obtain⟨y,hy⟩:∃ y,m[i]?=some y:=⟨m[i],getElem?_eq_getElem (by omega)⟩;have hy0:=List.getElem?_eq_some_iff.1 hy;rw[List.drop_eq_getElem_cons ht,hy0.2]at heq;have hw:=eY i m.length ht (by omega);have hyl:=y.toNat_lt;intros;refine gN ?_;intros;refine gR 18 21 c213r6.eq_1 ?_;refine hB.x_l1 hy rfl rfl ?_;rintro a1 ha1 u hu;cases hu;refine sI ?_;intros;try refine dU ?_
   refine eK (fun e h=>¬ ((i=9∧1 < y.toNat)∨(0 < i∧y.toNat=0))∧e 16=.int .i64 i∧e 15=.int .i64 m.length∧e 14=.slice B m.length d∧e 7=.int .u64 (z:Int)∧e 1=.int .i64 (a:Int)∧e 8=.int .i64 i∧e 9=.int .u8 (y.toNat:Int)∧h=⟨G,[],[]⟩) ?_ ?_
   ·have hbad:((i=9∧1 < y.toNat)∨(0 < i∧y.toNat=0))→∀ (fr:J0) (e:Env),go none Tryz.prog 58 v213.1 v213.2 (fB o213 fun v h=>v=.tuple #[.int .i64 (if (gvL 0 0 m).1=0 then(zag (gvL 0 0 m).2.1,(a:Int)+(gvL 0 0 m).2.2,0)else(0,0,(gvL 0 0 m).1)).1,.int .i64 (if (gvL 0 0 m).1=0 then(zag (gvL 0 0 m).2.1,(a:Int)+(gvL 0 0 m).2.2,0)else(0,0,(gvL 0 0 m).1)).2.1,.int .i64 (if (gvL 0 0 m).1=0 then(zag (gvL 0 0 m).2.1,(a:Int)+(gvL 0 0 m).2.2,0)else(0,0,(gvL 0 0 m).1)).2.2]) (Td.s ((SC.reg false c213r8).seq .ret) :: fr) e ⟨G,[],[]⟩:=fun hx fr e=>by
     intros;refine gR 0 0 c213r8.eq_1 ?_;intros;refine rW ?_;rw[heq,pd hx];rfl
    intros;refine gR 21 34 c213r7.eq_1 ?_;refine gd (fun k1=>?_) (fun k1=>?_)
    ·have k1:i=9:=by have:=Kb k1;omega
     have hp:decide ((0:Int) < (i:Int))=true:=decide_eq_true (by omega);refine sI ?_;refine gdD (fun k2=>?_) (fun k2=>?_)
     ·refine sI ?_;intros;refine gC ?_;exact hbad (.inl ⟨k1,by omega⟩) _ _
     ·refine sJ @hp ?_;intros;refine gC ?_;refine gb (fun k3=>?_) (fun k3=>?_)
      ·exact hbad (.inr ⟨by omega,by have:=Kb k3;omega⟩) _ _
      ·have k3:=Kc k3;intros;refine dT ?_;exact eC ⟨by omega,eE,eE,eE,eE,eE,eE,eE,rfl⟩
    ·have k1:¬ i=9:=by have:=Kc k1;omega
     refine sI ?_;refine gdD (fun k2=>?_) (fun k2=>?_)
     ·refine sI ?_;intros;refine gC ?_;refine gb (fun k3=>?_) (fun k3=>?_)
      ·exact hbad (.inr ⟨by omega,by have:=Kb k3;omega⟩) _ _
      ·have k3:=Kc k3;intros;refine dT ?_;exact eC ⟨by omega,eE,eE,eE,eE,eE,eE,eE,rfl⟩
     ·refine sI ?_;intros;refine gC ?_;intros;refine dT ?_;exact eC ⟨by omega,eE,eE,eE,eE,eE,eE,eE,rfl⟩
   rintro e h ⟨hgood,e16,e15,e14,e7,e1,e8,e9,rfl⟩;refine dX [1,7,8,9,14,15,16] ?_;refine sJ7 @e1 @e7 @e8 @e9 @e14 @e15 @e16 ?_;obtain⟨s1,s2,s3⟩:=sv hi9 hz (fun h=>hgood (.inl h)) hyl;have hp7:128 ^ i=2 ^ (7 * i):=by rw[Nat.pow_mul]
   have w7:IntKind.i64.wrap (7 * (i:Int))=((7 * i:Nat):Int):=by rw[eh] <;> omega
   have hs:fl .shl (.int .u64 ((y.toNat % 128:Nat):Int)) (.int .i64 ((7 * i:Nat):Int))=some (.int .u64 ((y.toNat % 128 * 2 ^ (7 * i):Nat):Int)):=qB (by omega) (by rw[← hp7,Nat.mul_comm];exact s1) .i64;have ho:fl .or (.int .u64 (z:Int)) (.int .u64 ((y.toNat % 128 * 2 ^ (7 * i):Nat):Int))=some (.int .u64 ((z+128 ^ i * (y.toNat % 128):Nat):Int)):=by
    rw[tc (by omega) (by rw[← hp7,Nat.mul_comm];exact s1),Nat.or_comm,tD (by rw[← hp7];exact hz),← hp7,Nat.mul_comm,Nat.add_comm]
   have hcu:IntKind.u64.wrap ((y.toNat % 128:Nat):Int)=((y.toNat % 128:Nat):Int):=lq (by omega);have hx127:=C3 y;generalize hq:y.toNat % 128=q at hs ho hcu hx127;generalize hz':z+128 ^ i * q=z' at ho;generalize hqq:q * 2 ^ (7 * i)=qq at hs ho;generalize h7i:7 * i=j7 at hs w7;have hz2:z' < 18446744073709551616:=by rw[← hz',← hq];exact s2
   intros;refine gr 35 43 ?_;refine sJ6 c213r9.eq_1 @hx127 @hcu @w7 @hs @ho ?_;intros;refine gR 43 44 c213r10.eq_1 ?_;intros;refine gC ?_;refine gbD (fun k3=>?_) (fun k3=>?_)
   ·have w8:IntKind.i64.wrap ((a:Int)+i)=((a+i:Nat):Int):=by rw[eh] <;> omega
    have w9:IntKind.i64.wrap (((a+i:Nat):Int)+1)=((a+i+1:Nat):Int):=by rw[eh] <;> omega
    have hx:=Cd hz2;have hcz:IntKind.i64.wrap ((z' / 2:Nat):Int)=((z' / 2:Nat):Int):=by rw[eh] <;> omega
    have hcm:IntKind.i64.wrap ((z' % 2:Nat):Int)=((z' % 2:Nat):Int):=by rw[eh] <;> omega
    have ha1:=rE hz2;have hs1:=sp z';generalize hv1:z' / 2=v1 at hx hcz hs1;generalize hv2:z' % 2=v2 at hx hcm ha1;generalize hv3:a+i=v3 at w8 w9;generalize hv4:v3+1=v4 at w9
    intros;refine gr 45 57 ?_;(try simp -implicitDefEqProofs only[mz,mE,push_cast,Nat.reduceBEq,Nat.reduceAdd,Nat.reduceSub,Nat.reduceMul,Nat.reduceLT,Nat.reduceLeDiff,Nat.reduceEqDiff,reduceIte,Bool.not_true,Bool.not_false,true_and,and_true,Option.map_some,Option.bind_some,Int.toNat_natCast,c213r11,hs1,ha1,hcz,hcm,hx,w8,w9]);intros;refine rW ?_
    have hend:=l4 (z:=z) (xs:=m.drop (i+1)) hgood (by omega);rw[heq,hend];simp only[if_true];rw[hq,hz',← hv4,← hv3];simp[Int.add_assoc]
   ·have hi8:i≤8:=by omega
    rw[lC hgood (by omega),hq,hz']at heq;intros;refine gN ?_;intros;refine gR2 57 58 c213r12.eq_1 @hw ?_;intros;refine dT ?_;refine eC ⟨⟨i+1,z',⟨by omega,by omega,by rw[← hz',← hq];exact s3 hi8,heq⟩,eE,eE,eE,eE,eE,rfl⟩,?_⟩;refine sI ?_;omega
  ·have ht:i=m.length:=by simp at ht;omega
   rw[ht,List.drop_length,xq]at heq;refine eg ?_;refine sI ?_;intros;refine gR 0 0 c213r13.eq_1 ?_;intros;refine rW ?_;rw[heq];rfl
theorem iC(l:J3)(a:Int)(v:Value)(G:JT)(hl:SB G v l):
  FnS Tryz.prog 218 #[v,.int .i64 a] G (.tuple #[.int .i64 (fC l a).1,.int .i64 (fC l a).2.1,.int .i64 (fC l a).2.2]):=by
 obtain⟨A,c,rfl,hc,hm,hA⟩:=id hl;unfold maxLen at hm;refine F218.fnS (by simp) (d7 ?_);unfold c218;intros;refine gR 0 0 c218r0.eq_1 ?_;intros;refine gR 12 13 c218r1.eq_1 ?_;intros;refine gC ?_;refine gbD (fun h1=>?_) (fun h1=>?_)
 ·intros;refine gR 0 0 c218r2.eq_1 ?_;intros;refine rW ?_;rw[fC,if_pos h1]
 obtain⟨a,rfl⟩:∃ n:Nat,a=n:=⟨a.toNat,by omega⟩;have hgv:fC l (a:Int)=if (gvL 0 0 (l.drop a)).1=0 then(zag (gvL 0 0 (l.drop a)).2.1,(a:Int)+(gvL 0 0 (l.drop a)).2.2,0)else(0,0,(gvL 0 0 (l.drop a)).1):=by
  rw[fC,if_neg h1];rfl
 rw[hgv];have hml:(l.drop a).length=l.length - a:=by simp
 have hmg:∀ i:Nat,(l.drop a)[i]?=l[a+i]?:=fun i=>by rw[List.getElem?_drop]
 generalize hm0:l.drop a=m at hml hmg ⊢;intros;refine gN ?_;intros;refine gR 0 0 c218r3.eq_1 ?_;intros;refine gR 0 0 c218r4.eq_1 ?_;intros;refine gR 0 0 c218r5.eq_1 ?_;intros;refine dT ?_
 refine ej (fun e h=>∃ (i z:Nat),(i≤m.length∧i≤9∧z < 128 ^ i∧gvL 0 0 m=gvL i z (m.drop i))∧e 9=.int .i64 i∧e 0=.slice A l.length c∧e 7=.int .u64 (z:Int)∧e 8=.int .u64 ((128 ^ i:Nat):Int)∧e 1=.int .i64 (a:Int)∧h=⟨G,[],[]⟩) (fun e h=>m.length - iv (e 9)) ?_ ?_
 ·exact⟨0,0,⟨Nat.zero_le _,by omega,by simp,by simp⟩,eE,eE,eE,by refine sI ?_;rfl,eE,rfl⟩
 ·rintro e h ⟨i,z,⟨hi,hi9,hz,heq⟩,e9,e0,e7,e8,e1,rfl⟩;refine dX [0,1,7,8,9] ?_;have hpu:128 ^ i≤9223372036854775808:=H5 hi9;generalize hu:128 ^ i=un at e8 hpu;refine sJ5 @e0 @e1 @e7 @e8 @e9 ?_
  have hbad:m.length≤i→∀ (fr:J0) (e:Env),go none Tryz.prog 73 v218.1 v218.2 (fB o218 fun v h=>v=.tuple #[.int .i64 (if (gvL 0 0 m).1=0 then(zag (gvL 0 0 m).2.1,(a:Int)+(gvL 0 0 m).2.2,0)else(0,0,(gvL 0 0 m).1)).1,.int .i64 (if (gvL 0 0 m).1=0 then(zag (gvL 0 0 m).2.1,(a:Int)+(gvL 0 0 m).2.2,0)else(0,0,(gvL 0 0 m).1)).2.1,.int .i64 (if (gvL 0 0 m).1=0 then(zag (gvL 0 0 m).2.1,(a:Int)+(gvL 0 0 m).2.2,0)else(0,0,(gvL 0 0 m).1)).2.2]) (Td.s ((SC.reg false c218r7).seq .ret) :: fr) e ⟨G,[],[]⟩:=fun hx fr e=>by
   rw[List.drop_of_length_le hx,xq]at heq;intros;refine gR 0 0 c218r7.eq_1 ?_;intros;refine rW ?_;rw[heq];rfl
  intros;try refine dU ?_
  refine tM ?_;intros;try refine dU ?_
  refine eK (fun e h=>i < m.length∧e 9=.int .i64 i∧e 0=.slice A l.length c∧e 7=.int .u64 (z:Int)∧e 8=.int .u64 (un:Int)∧e 1=.int .i64 (a:Int)∧h=⟨G,[],[]⟩) ?_ ?_
  ·intros;refine gR 16 27 c218r6.eq_1 ?_;refine gdD (fun k1=>?_) (fun k1=>?_)
   ·refine sI ?_;intros;refine gC ?_;exact hbad (by omega) _ _
   ·have w1:IntKind.i64.wrap ((l.length:Int) - a)=(l.length:Int) - a:=by rw[eh] <;> omega
    refine sJ @w1 ?_;intros;refine gC ?_;refine gbD (fun k2=>?_) (fun k2=>?_)
    ·exact hbad (by omega) _ _
    ·intros;refine dT ?_;exact eC ⟨by omega,eE,eE,eE,eE,eE,rfl⟩
  rintro e h ⟨ht,e9,e0,e7,e8,e1,rfl⟩;refine dX [0,1,7,8,9] ?_;refine sJ5 @e0 @e1 @e7 @e8 @e9 ?_;clear hbad;obtain⟨y,hy⟩:∃ y,m[i]?=some y:=⟨m[i],getElem?_eq_getElem (by omega)⟩;have hy0:=List.getElem?_eq_some_iff.1 hy;rw[List.drop_eq_getElem_cons ht,hy0.2]at heq;have hw:=eY i m.length ht (by unfold maxLen;omega);have hyl:=y.toNat_lt;have hy':l[a+i]?=some y:=by rw[← hmg];exact hy
  have w2:IntKind.i64.wrap ((a:Int)+i)=((a+i:Nat):Int):=by rw[eh] <;> omega
  have w3:IntKind.i64.wrap (((a+i:Nat):Int)+1)=((a+i+1:Nat):Int):=by rw[eh] <;> omega
  generalize hv3:a+i=v3 at w2 w3 hy';generalize hv4:v3+1=v4 at w3;intros;refine gR2 28 34 c218r8.eq_1 @w2 ?_;refine hA.x_l1 hy' rfl rfl ?_;rintro a1 ha1 u hu';cases hu';refine sI ?_;intros;try refine dU ?_
  refine eK (fun e h=>¬ ((i=9∧1 < y.toNat)∨(0 < i∧y.toNat=0))∧e 9=.int .i64 i∧e 0=.slice A l.length c∧e 7=.int .u64 (z:Int)∧e 8=.int .u64 (un:Int)∧e 1=.int .i64 (a:Int)∧e 10=.int .u8 (y.toNat:Int)∧h=⟨G,[],[]⟩) ?_ ?_
  ·have hbad:((i=9∧1 < y.toNat)∨(0 < i∧y.toNat=0))→∀ (fr:J0) (e:Env),go none Tryz.prog 73 v218.1 v218.2 (fB o218 fun v h=>v=.tuple #[.int .i64 (if (gvL 0 0 m).1=0 then(zag (gvL 0 0 m).2.1,(a:Int)+(gvL 0 0 m).2.2,0)else(0,0,(gvL 0 0 m).1)).1,.int .i64 (if (gvL 0 0 m).1=0 then(zag (gvL 0 0 m).2.1,(a:Int)+(gvL 0 0 m).2.2,0)else(0,0,(gvL 0 0 m).1)).2.1,.int .i64 (if (gvL 0 0 m).1=0 then(zag (gvL 0 0 m).2.1,(a:Int)+(gvL 0 0 m).2.2,0)else(0,0,(gvL 0 0 m).1)).2.2]) (Td.s ((SC.reg false c218r10).seq .ret) :: fr) e ⟨G,[],[]⟩:=fun hx fr e=>by
    intros;refine gR 0 0 c218r10.eq_1 ?_;intros;refine rW ?_;rw[heq,pd hx];rfl
   intros;refine gR 34 47 c218r9.eq_1 ?_;refine gd (fun k1=>?_) (fun k1=>?_)
   ·have k1:i=9:=by have:=Kb k1;omega
    have hp:decide ((0:Int) < (i:Int))=true:=decide_eq_true (by omega);refine sI ?_;refine gdD (fun k2=>?_) (fun k2=>?_)
    ·refine sI ?_;intros;refine gC ?_;exact hbad (.inl ⟨k1,by omega⟩) _ _
    ·refine sJ @hp ?_;intros;refine gC ?_;refine gb (fun k3=>?_) (fun k3=>?_)
     ·exact hbad (.inr ⟨by omega,by have:=Kb k3;omega⟩) _ _
     ·have k3:=Kc k3;intros;refine dT ?_;exact eC ⟨by omega,eE,eE,eE,eE,eE,eE,rfl⟩
   ·have k1:¬ i=9:=by have:=Kc k1;omega
    refine sI ?_;refine gdD (fun k2=>?_) (fun k2=>?_)
    ·refine sI ?_;intros;refine gC ?_;refine gb (fun k3=>?_) (fun k3=>?_)
     ·exact hbad (.inr ⟨by omega,by have:=Kb k3;omega⟩) _ _
     ·have k3:=Kc k3;intros;refine dT ?_;exact eC ⟨by omega,eE,eE,eE,eE,eE,eE,rfl⟩
    ·refine sI ?_;intros;refine gC ?_;intros;refine dT ?_;exact eC ⟨by omega,eE,eE,eE,eE,eE,eE,rfl⟩
  rintro e h ⟨hgood,e9,e0,e7,e8,e1,e10,rfl⟩;refine dX [0,1,7,8,9,10] ?_;refine sJ6 @e0 @e1 @e7 @e8 @e9 @e10 ?_;obtain⟨s1,s2,s3⟩:=sv hi9 hz (fun h=>hgood (.inl h)) hyl;have hr128:fl .rem (.int .u8 (y.toNat:Int)) (.int .u8 128)=some (.int .u8 ((y.toNat % 128:Nat):Int)):=lX .u8 y.toNat 128 (by decide);have hcu:IntKind.u64.wrap ((y.toNat % 128:Nat):Int)=((y.toNat % 128:Nat):Int):=lq (by omega)
  have hz128:z < un:=by rw[← hu];exact hz
  rw[hu]at s1 s2 s3;generalize hq:y.toNat % 128=q at hr128 hcu s1 s2 s3;have wm:IntKind.u64.wrap ((un:Int) * q)=((un * q:Nat):Int):=by
   have:(un:Int) * q=((un * q:Nat):Int):=by push_cast;rfl
   rw[this,lq s1]
  have wa:IntKind.u64.wrap ((z:Int)+((un * q:Nat):Int))=((z+un * q:Nat):Int):=by
   have:(z:Int)+((un * q:Nat):Int)=((z+un * q:Nat):Int):=by push_cast;rfl
   rw[this,lq s2]
  generalize hz':z+un * q=z' at wa s2 s3;generalize hqq:un * q=qq at wm wa;intros;refine gr 48 55 ?_;refine sJ7 c218r11.eq_1 @hr128 @hcu @mV @pn @wm @wa ?_;intros;refine gR2 55 57 c218r12.eq_1 @mV ?_;generalize hun':IntKind.u64.wrap ((un:Int) * 128)=un';intros;refine gR 57 58 c218r13.eq_1 ?_;intros;refine gC ?_;refine gbD (fun k3=>?_) (fun k3=>?_)
  ·have hend:=l4 (z:=z) (xs:=m.drop (i+1)) hgood (by omega);rw[hu,hq,hqq,← hqq,hz']at hend;have hdv:fl .quo (.int .u64 (z':Int)) (.int .u64 2)=some (.int .u64 ((z' / 2:Nat):Int)):=mW .u64 z' 2 (by decide) (by simp[IntKind.max,IntKind.signed,IntKind.bits];omega) rfl;have hrm:fl .rem (.int .u64 (z':Int)) (.int .u64 2)=some (.int .u64 ((z' % 2:Nat):Int)):=lX .u64 z' 2 (by decide)
   have hcz:IntKind.i64.wrap ((z' / 2:Nat):Int)=((z' / 2:Nat):Int):=by rw[eh] <;> omega
   have hv1:z' / 2 < 9223372036854775808:=by omega
   have hzag:zag z'=if z' % 2=0 then((z' / 2:Nat):Int)else -((z' / 2:Nat):Int) - 1:=rfl
   have hv2:z' % 2 < 2:=by omega
   generalize z' / 2=v1 at hdv hcz hv1 hzag;generalize z' % 2=v2 at hrm hzag hv2;have w5:IntKind.i64.wrap (0 - (v1:Int))=0 - (v1:Int):=by rw[eh] <;> omega
   have w6:IntKind.i64.wrap (0 - (v1:Int) - 1)=zag z'∨v2=0:=by
    by_cases h:v2=0
    ·exact .inr h
    ·left;rw[eh (by omega),hzag,if_neg h];omega
   intros;refine gr 59 62 ?_;refine sJ3 c218r14.eq_1 @hdv @hcz ?_;intros;try refine dU ?_
   refine eK (fun e h=>e 9=.int .i64 i∧e 1=.int .i64 (a:Int)∧e 11=.int .i64 (zag z')∧h=⟨G,[],[]⟩) ?_ ?_
   ·intros;refine gR2 62 64 c218r15.eq_1 @hrm ?_;intros;refine gC ?_;refine gb (fun k4=>?_) (fun k4=>?_)
    ·have k4:¬ v2=0:=by have:=Kb k4;omega
     have w6:=w6.resolve_right k4;intros;refine gr 65 68 ?_;refine sJ3 c218r16.eq_1 @w5 @w6 ?_;intros;refine dT ?_;exact eC ⟨eE,eE,eE,rfl⟩
    ·have k4:v2=0:=by have:=Kc k4;omega
     rw[if_pos k4]at hzag;intros;refine dT ?_;exact eC ⟨eE,eE,(eJ @hzag),rfl⟩
   rintro e h ⟨e9,e1,e11,rfl⟩;refine dX [1,9,11] ?_;refine sJ3 @e1 @e9 @e11 ?_;intros;refine gr 68 73 ?_;refine sJ3 c218r17.eq_1 @w2 @w3 ?_;intros;refine rW ?_;rw[heq,hend];simp only[if_true];rw[← hv4,← hv3];simp[Int.add_assoc]
  ·have hi8:i≤8:=by omega
   rw[lC hgood (by omega),hu,hq,hqq,← hqq,hz']at heq;have hun2:un'=((128 ^ (i+1):Nat):Int):=by
    have:=Fu hi8;rw[← hun',Nat.pow_succ,hu,IntKind.wrap_u64];omega
   intros;refine gN ?_;intros;refine gR2 14 16 c218r18.eq_1 @hw ?_;intros;refine dT ?_;refine eC ⟨⟨i+1,z',⟨by omega,by omega,s3 hi8,heq⟩,eE,eE,eE,(eJ @hun2),eE,rfl⟩,?_⟩;refine sI ?_;omega
theorem F223:Fun Tryz.prog 223 14 v223 c223 o223:=Fun.mkA Tryz.func223 Tryz.ntmps223
theorem F229:Fun Tryz.prog 229 21 v229 c229 o229:=Fun.mkA Tryz.func229 Tryz.ntmps229
theorem F221:Fun Tryz.prog 221 13 v221 c221 o221:=Fun.mkA Tryz.func221 Tryz.ntmps221
theorem jM{l:J3}{a:Int}(h:(fC l a).2.2=0):∃ k:Nat,0≤a∧(fC l a).2.1=((a.toNat+k:Nat):Int)∧0 < k∧a.toNat+k≤l.length∧I64 (fC l a).1:=by
 unfold fC at h ⊢;split at h
 ·cases h
 rename_i h0;rw[if_neg h0];split at h
 ·rename_i h1;rw[if_pos h1];obtain⟨a1,a2,a3⟩:=AE _ 0 0 (by omega) (by simp) h1;refine⟨_,by omega,?_,a2,?_,IN a1⟩
  ·dsimp only;omega
  ·have:(gvL 0 0 (l.drop a.toNat)).2.2≤l.length - a.toNat:=by simpa using a3
   omega
 ·rename_i h1;exact absurd h h1
def ky(l:J3)(a most:Int):ByteArray × Int × Int :=
 if (fC l a).2.2=0 then
  if (fC l a).1 < 0 then(⟨#[]⟩,0,11)else if most < (fC l a).1 then(⟨#[]⟩,0,2)else if (l.length:Int) - (fC l a).2.1 < (fC l a).1 then(⟨#[]⟩,0,10)
  else(⟨((l.take ((fC l a).2.1.toNat+(fC l a).1.toNat)).drop (fC l a).2.1.toNat).toArray⟩,(fC l a).2.1+(fC l a).1,0)
 else(⟨#[]⟩,0,(fC l a).2.2)
theorem uq(l:J3)(a most:Int)(v:Value)(G:JT)(hl:SB G v l):
  FnS Tryz.prog 222 #[v,.int .i64 a,.int .i64 most] G (.tuple #[.string (ky l a most).1,.int .i64 (ky l a most).2.1,.int .i64 (ky l a most).2.2]):=by
 obtain⟨A,c,rfl,hc,hm,hA⟩:=id hl;unfold maxLen at hm;refine F222.fnS (by simp) (d7 ?_);unfold c222 ky;have hk:=@jM l a;intros;refine gR 0 0 c222r0.eq_1 ?_;intros;refine gR 10 17 c222r1.eq_1 ?_;refine fK (ls l a _ G hl _ _) ?_;generalize fC l a=q at hk ⊢;obtain⟨n,next,er⟩:=q;dsimp only at hk ⊢;intros;refine gR 18 20 c222r2.eq_1 ?_;intros;refine gC ?_;refine gb (fun h1=>?_) (fun h1=>?_)
 ·have h1:=Kb h1;intros;refine gR 20 21 c222r3.eq_1 ?_;intros;refine rW ?_;rw[if_neg h1]
 have h1:er=0:=by simpa using h1
 obtain⟨k,ha,hnx,hk0,hkl,hn⟩:=hk h1;generalize hb:a.toNat+k=b at hnx hkl;subst hnx;rw[if_pos h1];intros;refine gR 22 24 c222r4.eq_1 ?_;intros;refine gC ?_;refine gbD (fun h2=>?_) (fun h2=>?_)
 ·intros;refine gR 0 0 c222r5.eq_1 ?_;intros;refine rW ?_;rw[if_pos h2]
 rw[if_neg h2];intros;refine gR 25 28 c222r6.eq_1 ?_;intros;refine gC ?_;refine gbD (fun h3=>?_) (fun h3=>?_)
 ·intros;refine gR 0 0 c222r7.eq_1 ?_;intros;refine rW ?_;rw[if_pos h3]
 rw[if_neg h3];obtain⟨n,rfl⟩:∃ m:Nat,n=m:=⟨n.toNat,by omega⟩;have w1:IntKind.i64.wrap ((l.length:Int) - b)=(l.length:Int) - b:=by rw[eh] <;> omega
 intros;refine gR2 29 35 c222r8.eq_1 @w1 ?_;intros;refine gC ?_;refine gbD (fun h4=>?_) (fun h4=>?_)
 ·intros;refine gR 0 0 c222r9.eq_1 ?_;intros;refine rW ?_;rw[if_pos (by omega)]
 rw[if_neg (by omega)];have w2:IntKind.i64.wrap ((b:Int)+n)=((b+n:Nat):Int):=by rw[eh] <;> omega
 intros;refine gN ?_;intros;refine gR2 35 45 c222r10.eq_1 @w2 ?_;refine uz b (b+n) c hl rfl rfl rfl (by omega) fun B hB=>?_
 refine sI ?_;refine⟨_,oD hB rfl,?_⟩;refine sJ @w2 ?_;intros;refine rV ?_;simp only[push_cast,Nat.reduceBEq]
theorem mS(l:J3)(a most:Int)(v:Value)(G:JT)(hl:SB G v l):
  FnS Tryz.prog 228 #[v,.int .i64 a,.int .i64 most] G (.tuple #[.string (ky l a most).1,.int .i64 (ky l a most).2.1,.int .i64 (ky l a most).2.2]):=by
 obtain⟨A,c,rfl,hc,hm,hA⟩:=id hl;unfold maxLen at hm;refine F228.fnS (by simp) (d7 ?_);unfold c228 ky;have hk:=@jM l a;intros;refine gR 0 0 c228r0.eq_1 ?_;intros;refine gR 12 19 c228r1.eq_1 ?_;refine fK (iC l a _ G hl _ _) ?_;generalize fC l a=q at hk ⊢;obtain⟨n,next,er⟩:=q;dsimp only at hk ⊢;intros;refine gR 19 20 c228r2.eq_1 ?_;intros;refine gC ?_;refine gb (fun h1=>?_) (fun h1=>?_)
 ·have h1:=Kb h1;intros;refine gR 21 22 c228r3.eq_1 ?_;intros;refine rW ?_;rw[if_neg h1]
 have h1:er=0:=by simpa using h1
 obtain⟨k,ha,hnx,hk0,hkl,hn⟩:=hk h1;generalize hb:a.toNat+k=b at hnx hkl;subst hnx;rw[if_pos h1];intros;refine gN ?_;intros;refine gR 22 23 c228r4.eq_1 ?_;intros;refine gC ?_;refine gbD (fun h2=>?_) (fun h2=>?_)
 ·intros;refine gR 0 0 c228r5.eq_1 ?_;intros;refine rW ?_;rw[if_pos h2]
 rw[if_neg h2];intros;refine gN ?_;intros;refine gR 24 26 c228r6.eq_1 ?_;intros;refine gC ?_;refine gbD (fun h3=>?_) (fun h3=>?_)
 ·intros;refine gR 0 0 c228r7.eq_1 ?_;intros;refine rW ?_;rw[if_pos h3]
 rw[if_neg h3];obtain⟨n,rfl⟩:∃ m:Nat,n=m:=⟨n.toNat,by omega⟩;have w1:IntKind.i64.wrap ((l.length:Int) - b)=(l.length:Int) - b:=by rw[eh] <;> omega
 intros;refine gN ?_;intros;refine gR2 27 32 c228r8.eq_1 @w1 ?_;intros;refine gC ?_;refine gbD (fun h4=>?_) (fun h4=>?_)
 ·intros;refine gR 0 0 c228r9.eq_1 ?_;intros;refine rW ?_;rw[if_pos (by omega)]
 rw[if_neg (by omega)];have w2:IntKind.i64.wrap ((b:Int)+n)=((b+n:Nat):Int):=by rw[eh] <;> omega
 intros;refine gN ?_;intros;refine gR2 33 43 c228r10.eq_1 @w2 ?_;refine uz b (b+n) c hl rfl rfl rfl (by omega) fun B hB=>?_
 refine sI ?_;refine⟨_,oD hB rfl,?_⟩;refine sJ @w2 ?_;intros;refine rV ?_;simp only[push_cast,Nat.reduceBEq]
theorem wM(l:J3)(a:Int)(v:Value)(G:JT)(hl:SB G v l):
  FnS Tryz.prog 221 #[v,.int .i64 a] G (.tuple #[.string (ky l a 64).1,.int .i64 (ky l a 64).2.1,.int .i64 (ky l a 64).2.2]):=by
 refine F221.fnS (by simp) (d7 ?_);unfold c221;intros;refine gR 0 0 c221r0.eq_1 ?_;intros;refine gR 7 13 c221r1.eq_1 ?_;refine fK (uq l a 64 _ G hl _ _) ?_;intros;refine rV ?_;simp only[push_cast,Nat.reduceBEq]
def bes(n d:Int):Int:=if d < -1099511627776∨1099511627776 < d then -1 else n+d
theorem rj(n d:Int)(hn:0≤n∧n≤1099511627776)(G:JT):FnS Tryz.prog 223 #[.int .i64 n,.int .i64 d] G (.int .i64 (bes n d)):=by
 refine F223.fnS (by simp) (d7 ?_);unfold c223;intros;refine gR 0 0 c223r0.eq_1 ?_;have hbad:(d < -1099511627776∨1099511627776 < d)→∀ (fr:J0) (e:Env),go none Tryz.prog 14 v223.1 v223.2 (fB o223 fun v h=>v=.int .i64 (bes n d)) (Td.s ((SC.reg false c223r2).seq .ret) :: fr) e ⟨G,[],[]⟩:=fun hx fr e=>by
  intros;refine gR 0 0 c223r2.eq_1 ?_;intros;refine rW ?_;rw[bes,if_pos hx]
 intros;refine gR 5 10 c223r1.eq_1 ?_;refine gd (fun h1=>?_) (fun h1=>?_)
 ·refine sI ?_;intros;refine gC ?_;exact hbad (.inl (Kb h1)) _ _
 have h1:=Kc h1;refine sI ?_;intros;refine gC ?_;refine gb (fun h2=>?_) (fun h2=>?_)
 ·exact hbad (.inr (Kb h2)) _ _
 have h2:=Kc h2;have w:IntKind.i64.wrap (n+d)=n+d:=by rw[eh] <;> omega
 intros;refine gN ?_;intros;refine gR2 11 14 c223r3.eq_1 @w ?_;intros;refine rW ?_;rw[bes,if_neg (by omega)]
def tZ(n d:Int):Int:=if d < -1099511627776∨1099511627776 < d∨inO (n+d)=false then -1 else n+d
theorem n9(n d:Int)(hn:0≤n∧n≤1099511627776)(G:JT):FnS Tryz.prog 229 #[.int .i64 n,.int .i64 d] G (.int .i64 (tZ n d)):=by
 refine F229.fnS (by simp) (d7 ?_);unfold c229;intros;refine gR 0 0 c229r0.eq_1 ?_;have hbad:(d < -1099511627776∨1099511627776 < d∨inO (n+d)=false)→∀ (fr:J0) (e:Env),go none Tryz.prog 21 v229.1 v229.2 (fB o229 fun v h=>v=.int .i64 (tZ n d)) (Td.s ((SC.reg false c229r2).seq .ret) :: fr) e ⟨G,[],[]⟩:=fun hx fr e=>by
  intros;refine gR 0 0 c229r2.eq_1 ?_;intros;refine rW ?_;rw[tZ,if_pos hx]
 intros;refine gR 5 17 c229r1.eq_1 ?_;refine gd (fun h1=>?_) (fun h1=>?_)
 ·refine sI ?_;intros;refine gC ?_;exact hbad (.inl (Kb h1)) _ _
 have h1:=Kc h1;refine sI ?_;refine gd (fun h2=>?_) (fun h2=>?_)
 ·refine sI ?_;intros;refine gC ?_;exact hbad (.inr (.inl (Kb h2))) _ _
 have h2:=Kc h2;have w:IntKind.i64.wrap (n+d)=n+d:=by rw[eh] <;> omega
 refine sJ @w ?_;refine fK (sn (n+d) G _ _) ?_;intros;refine gC ?_;refine gb (fun h3=>?_) (fun h3=>?_)
 ·exact hbad (.inr (.inr (by simpa using h3))) _ _
 have h3:inO (n+d)=true:=by simpa using h3
 intros;refine gN ?_;intros;refine gR2 18 21 c229r3.eq_1 @w ?_;intros;refine rW ?_;rw[tZ,if_neg (by rw[h3];simp;omega)]
theorem F224:Fun Tryz.prog 224 32 v224 c224 o224:=Fun.mkA Tryz.func224 Tryz.ntmps224
theorem F225:Fun Tryz.prog 225 32 v225 c225 o225:=Fun.mkA Tryz.func225 Tryz.ntmps225
theorem F227:Fun Tryz.prog 227 32 v227 c227 o227:=Fun.mkA Tryz.func227 Tryz.ntmps227
theorem dZ{h:H}{b o:Nat}{cs:JU}{v:Value}(hm:Item.blk b cs∈h.L)(hv:cs[o]?=some v):LdN h (.pointer (some ⟨b,o,none⟩)) none v:=⟨_,rfl,.blk hm hv⟩
def nx{α:Type}(e:Int)(z:α)(x:Int)(r:α × Int × Int):α × Int × Int:=if e=0 then r else(z,x,e)
theorem qK{α:Type}{e:Int}{z:α}{x:Int}{r:α × Int × Int}(h:e=0):nx e z x r=r:=if_pos h
theorem Cq{α:Type}{e:Int}{z:α}{x:Int}{r:α × Int × Int}(h:¬ e=0):nx e z x r=(z,x,e):=if_neg h
theorem ri(l:J3)(a e:Int)(v:Value)(b:Nat)(G:JT)(hl:SB G v l)(g:Nat)(rd:J3→Int→Int × Int × Int)
  (hg:FnS Tryz.prog g #[v,.int .i64 a] G (.tuple #[.int .i64 (rd l a).1,.int .i64 (rd l a).2.1,.int .i64 (rd l a).2.2])) :
  FnO Tryz.prog 224 #[.pointer (some ⟨b,0,none⟩),.func (.func g) #[] #[]] G [.blk b [v,.int .i64 a,.int .i64 e]] (fun _ L' r=>r=.int .i64 (nx e 0 a (rd l a)).1∧L'=[.blk b [v,.int .i64 (nx e 0 a (rd l a)).2.1,.int .i64 (nx e 0 a (rd l a)).2.2]]):=by
 obtain⟨A,c,rfl,-⟩:=hl;refine F224.fnO (by simp) (ec dS) (d7 ?_);unfold c224;intros;refine gR 0 0 c224r0.eq_1 ?_;intros;refine gR 0 0 c224r1.eq_1 ?_;intros;refine gR 6 10 c224r2.eq_1 ?_;refine⟨_,dZ (.head _) rfl,?_⟩;refine sI ?_;intros;refine gC ?_;refine gbD (fun h1=>?_) (fun h1=>?_)
 ·intros;refine dT ?_;refine pQ _ J9 (by decide) ?_;refine sJ c224r3.eq_1 ?_;refine⟨_,dZ (.head _) rfl,?_⟩;refine sI ?_;refine⟨_,dZ (.head _) rfl,?_⟩;refine sI ?_;refine .inl ⟨_,_,rfl,?_⟩;refine fK (hg _ _) ?_;refine gy ?_;refine sI ?_;refine ei [] [] rfl (by simp) ⟨rfl,rfl⟩ ?_;refine sI ?_;refine gy ?_;refine sI ?_;refine ei [] [] rfl (by simp) ⟨rfl,rfl⟩ ?_;refine sI ?_;intros;refine dT ?_
  intros;refine gR 31 32 c224r4.eq_1 ?_;intros;refine dT ?_;refine ea (ee _ rfl J9 (ec dS) ?_);rw[qK h1];exact⟨rfl,rfl⟩
 ·intros;refine gN ?_;intros;refine gR 31 32 c224r4.eq_1 ?_;intros;refine dT ?_;refine ea (ee _ rfl J9 (ec dS) ?_);rw[Cq h1];exact⟨rfl,rfl⟩
theorem vS(l:J3)(a e:Int)(v:Value)(b:Nat)(G:JT)(hl:SB G v l)(g:Nat)(rd:J3→Int→Bool × Int × Int)
  (hg:FnS Tryz.prog g #[v,.int .i64 a] G (.tuple #[.bool (rd l a).1,.int .i64 (rd l a).2.1,.int .i64 (rd l a).2.2])) :
  FnO Tryz.prog 225 #[.pointer (some ⟨b,0,none⟩),.func (.func g) #[] #[]] G [.blk b [v,.int .i64 a,.int .i64 e]] (fun _ L' r=>r=.bool (nx e false a (rd l a)).1∧L'=[.blk b [v,.int .i64 (nx e false a (rd l a)).2.1,.int .i64 (nx e false a (rd l a)).2.2]]):=by
 obtain⟨A,c,rfl,-⟩:=hl;refine F225.fnO (by simp) (ec dS) (d7 ?_);unfold c225;intros;refine gR 0 0 c225r0.eq_1 ?_;intros;refine gR 0 0 c225r1.eq_1 ?_;intros;refine gR 6 10 c225r2.eq_1 ?_;refine⟨_,dZ (.head _) rfl,?_⟩;refine sI ?_;intros;refine gC ?_;refine gbD (fun h1=>?_) (fun h1=>?_)
 ·intros;refine dT ?_;refine pQ _ J9 (by decide) ?_;refine sJ c225r3.eq_1 ?_;refine⟨_,dZ (.head _) rfl,?_⟩;refine sI ?_;refine⟨_,dZ (.head _) rfl,?_⟩;refine sI ?_;refine .inl ⟨_,_,rfl,?_⟩;refine fK (hg _ _) ?_;refine gy ?_;refine sI ?_;refine ei [] [] rfl (by simp) ⟨rfl,rfl⟩ ?_;refine sI ?_;refine gy ?_;refine sI ?_;refine ei [] [] rfl (by simp) ⟨rfl,rfl⟩ ?_;refine sI ?_;intros;refine dT ?_
  intros;refine gR 31 32 c225r4.eq_1 ?_;intros;refine dT ?_;refine ea (ee _ rfl J9 (ec dS) ?_);rw[qK h1];exact⟨rfl,rfl⟩
 ·intros;refine gN ?_;intros;refine gR 31 32 c225r4.eq_1 ?_;intros;refine dT ?_;refine ea (ee _ rfl J9 (ec dS) ?_);rw[Cq h1];exact⟨rfl,rfl⟩
theorem pV(l:J3)(a e:Int)(v:Value)(b:Nat)(G:JT)(hl:SB G v l)(g:Nat)(rd:J3→Int→ByteArray × Int × Int)
  (hg:FnS Tryz.prog g #[v,.int .i64 a] G (.tuple #[.string (rd l a).1,.int .i64 (rd l a).2.1,.int .i64 (rd l a).2.2])) :
  FnO Tryz.prog 227 #[.pointer (some ⟨b,0,none⟩),.func (.func g) #[] #[]] G [.blk b [v,.int .i64 a,.int .i64 e]] (fun _ L' r=>r=.string (nx e ⟨#[]⟩ a (rd l a)).1∧L'=[.blk b [v,.int .i64 (nx e ⟨#[]⟩ a (rd l a)).2.1,.int .i64 (nx e ⟨#[]⟩ a (rd l a)).2.2]]):=by
 obtain⟨A,c,rfl,-⟩:=hl;refine F227.fnO (by simp) (ec dS) (d7 ?_);unfold c227;intros;refine gR 0 0 c227r0.eq_1 ?_;intros;refine gR 0 0 c227r1.eq_1 ?_;intros;refine gR 6 10 c227r2.eq_1 ?_;refine⟨_,dZ (.head _) rfl,?_⟩;refine sI ?_;intros;refine gC ?_;refine gbD (fun h1=>?_) (fun h1=>?_)
 ·intros;refine dT ?_;refine pQ _ J9 (by decide) ?_;refine sJ c227r3.eq_1 ?_;refine⟨_,dZ (.head _) rfl,?_⟩;refine sI ?_;refine⟨_,dZ (.head _) rfl,?_⟩;refine sI ?_;refine .inl ⟨_,_,rfl,?_⟩;refine fK (hg _ _) ?_;refine gy ?_;refine sI ?_;refine ei [] [] rfl (by simp) ⟨rfl,rfl⟩ ?_;refine sI ?_;refine gy ?_;refine sI ?_;refine ei [] [] rfl (by simp) ⟨rfl,rfl⟩ ?_;refine sI ?_;intros;refine dT ?_
  intros;refine gR 31 32 c227r4.eq_1 ?_;intros;refine dT ?_;refine ea (ee _ rfl J9 (ec dS) ?_);rw[qK h1];exact⟨rfl,rfl⟩
 ·intros;refine gN ?_;intros;refine gR 31 32 c227r4.eq_1 ?_;intros;refine dT ?_;refine ea (ee _ rfl J9 (ec dS) ?_);rw[Cq h1];exact⟨rfl,rfl⟩
theorem F214:Fun Tryz.prog 214 82 v214 c214 o214:=Fun.mkA Tryz.func214 Tryz.ntmps214
def kM:Rec:=⟨0,⟨#[]⟩,⟨#[]⟩,false,0⟩
def g1(l:J3)(a:Int):Int × Int × Int:=nx 0 0 a (fC l a)
def g2(l:J3)(a:Int):Int × Int × Int:=nx (g1 l a).2.2 0 (g1 l a).2.1 (fC l (g1 l a).2.1)
def g3(l:J3)(a:Int):Bool × Int × Int:=nx (g2 l a).2.2 false (g2 l a).2.1 (rb l (g2 l a).2.1.toNat)
def g4(l:J3)(a:Int):ByteArray × Int × Int:=nx (g3 l a).2.2 ⟨#[]⟩ (g3 l a).2.1 (ky l (g3 l a).2.1 64)
def g5(l:J3)(a:Int):ByteArray × Int × Int:=nx (g4 l a).2.2 ⟨#[]⟩ (g4 l a).2.1 (ky l (g4 l a).2.1 64)
def ry(l:J3)(a base stamp:Int):Rec:=⟨bes base (g1 l a).1,(g4 l a).1,(g5 l a).1,(g3 l a).1,bes stamp (g2 l a).1⟩
def getR(l:J3)(a base stamp:Int):Rec × Int × Int :=
 if inO base=true∧inO stamp=true∧0≤a∧a≤l.length then
  if (g5 l a).2.2=0 then(if jW (ry l a base stamp)=0 then(ry l a base stamp,(g5 l a).2.1,0)else(kM,0,1))else(kM,0,(g5 l a).2.2)
 else(kM,0,1)
theorem kt(l:J3)(a:Int):0≤(fC l a).2.1:=by
 by_cases h:(fC l a).2.2=0
 ·obtain⟨k,h1,h2,-⟩:=jM h;omega
 ·unfold fC at h ⊢;split
  ·simp
  ·rename_i h0;rw[if_neg h0]at h;split
   ·rename_i h1;rw[if_pos h1]at h;simp at h
   ·simp
theorem Fv(l:J3)(a:Int):0≤(g2 l a).2.1:=by
 unfold g2 nx;split
 ·exact kt _ _
 ·unfold g1;rw[qK rfl];exact kt _ _
theorem CM(l:J3)(a base stamp:Int)(v:Value)(G:JT)(hl:SB G v l):
  FnE Tryz.prog 214 #[v,.int .i64 a,.int .i64 base,.int .i64 stamp] G (fun r=>r=.tuple #[.agg (gJ (getR l a base stamp).1).toArray,.int .i64 (getR l a base stamp).2.1,.int .i64 (getR l a base stamp).2.2]):=by
 obtain⟨A,c,rfl,hc,hm,hA⟩:=id hl;refine F214.fnE (by simp) (d7 ?_);unfold c214;have hck:=fun x=>pw x
 unfold gJ at hck;intros;refine gR 0 0 c214r0.eq_1 ?_
 have hbad:∀ (fr:J0) (e:Env),¬ (inO base=true∧inO stamp=true∧0≤a∧a≤l.length)→go none Tryz.prog 82 v214.1 v214.2 (fB o214 fun v _=>v=.tuple #[.agg (gJ (getR l a base stamp).1).toArray,.int .i64 (getR l a base stamp).2.1,.int .i64 (getR l a base stamp).2.2]) (Td.s ((SC.reg false c214r2).seq .ret) :: fr) e ⟨G,[.reg 8 [.int .i64 0,.string ⟨#[]⟩,.string ⟨#[]⟩,.bool false,.int .i64 0]],[]⟩:=fun fr e hx=>by
  intros;refine gR 31 32 c214r2.eq_1 ?_;intros;refine rW ?_;rw[getR,if_neg hx];rfl
 intros;refine gR 13 30 c214r1.eq_1 ?_;refine fK (uw base G _ _) ?_;refine gd (fun h1=>?_) (fun h1=>?_)
 ·refine sI ?_;intros;refine gC ?_;exact hbad _ _ fun h=>by rw[h.1]at h1;cases h1
 refine sI ?_;refine fK (uw stamp G _ _) ?_;refine gd (fun h2=>?_) (fun h2=>?_)
 ·refine sI ?_;intros;refine gC ?_;exact hbad _ _ fun h=>by rw[h.2.1]at h2;cases h2
 refine sI ?_;refine gd (fun h3=>?_) (fun h3=>?_)
 ·refine sI ?_;intros;refine gC ?_;exact hbad _ _ fun h=>by have:=Kb h3;omega
 refine sI ?_;intros;refine gC ?_;refine gb (fun h4=>?_) (fun h4=>?_)
 ·exact hbad _ _ fun h=>by have:=Kb h4;omega
 clear hbad;have h1:inO base=true:=by simpa using h1
 have h2:inO stamp=true:=by simpa using h2
 have h3:=Kc h3;have h4:=Kc h4;have hb:0≤base∧base≤1099511627776:=by simpa [inO]using h1
 have hs:0≤stamp∧stamp≤1099511627776:=by simpa [inO]using h2
 rw[show getR l a base stamp=(if (g5 l a).2.2=0 then(if jW (ry l a base stamp)=0 then(ry l a base stamp,(g5 l a).2.1,0)else(kM,0,1))else(kM,0,(g5 l a).2.2))from if_pos ⟨h1,h2,by omega,by omega⟩];intros;refine gN ?_;intros;refine gR 32 36 c214r3.eq_1 ?_;intro b hb0;refine sI ?_;intros;refine gR 0 0 c214r4.eq_1 ?_;intros;refine gR 36 40 c214r5.eq_1 ?_
 refine(ri l a 0 _ b G hl 213 fC (ls l a _ G hl) _ []).mono ?_;rintro r h' ⟨G1,L',rfl,hg1,rfl,rfl⟩;rw[show nx 0 0 a (fC l a)=g1 l a from rfl];refine sI ?_;refine fK (rj base _ hb G1 _ _) ?_;intros;refine gR 41 45 c214r6.eq_1 ?_;have hl1:=SB.le hl hg1;refine(ri l (g1 l a).2.1 (g1 l a).2.2 _ b G1 hl1 213 fC (ls l _ _ G1 hl1) _ []).mono ?_;rintro r h' ⟨G2,L',rfl,hg2,rfl,rfl⟩
 rw[show nx (g1 l a).2.2 0 (g1 l a).2.1 (fC l (g1 l a).2.1)=g2 l a from rfl];refine sI ?_;refine fK (rj stamp _ hs G2 _ _) ?_;intros;refine gR 46 48 c214r7.eq_1 ?_;have hl2:=SB.le hl1 hg2;have hfl:=CJ l (g2 l a).2.1.toNat _ G2 hl2;rw[Int.toNat_of_nonneg (Fv l a)]at hfl;refine(vS l (g2 l a).2.1 (g2 l a).2.2 _ b G2 hl2 226 (fun l a=>rb l a.toNat) hfl _ []).mono ?_;rintro r h' ⟨G3,L',rfl,hg3,rfl,rfl⟩
 rw[show nx (g2 l a).2.2 false (g2 l a).2.1 (rb l (g2 l a).2.1.toNat)=g3 l a from rfl];have hl3:=SB.le hl2 hg3;refine sI ?_;intros;refine gR 49 55 c214r8.eq_1 ?_;refine(pV l (g3 l a).2.1 (g3 l a).2.2 _ b G3 hl3 221 (fun l a=>ky l a 64) (wM l _ _ G3 hl3) _ []).mono ?_;rintro r h' ⟨G4,L',rfl,hg4,rfl,rfl⟩;rw[show nx (g3 l a).2.2 ⟨#[]⟩ (g3 l a).2.1 (ky l (g3 l a).2.1 64)=g4 l a from rfl]
 have hl4:=SB.le hl3 hg4;refine sI ?_;refine(pV l (g4 l a).2.1 (g4 l a).2.2 _ b G4 hl4 221 (fun l a=>ky l a 64) (wM l _ _ G4 hl4) _ []).mono ?_;rintro r h' ⟨G5,L',rfl,hg5,rfl,rfl⟩;rw[show nx (g4 l a).2.2 ⟨#[]⟩ (g4 l a).2.1 (ky l (g4 l a).2.1 64)=g5 l a from rfl];refine sI ?_;intro _;have hrr:ry l a base stamp=⟨bes base (g1 l a).1,(g4 l a).1,(g5 l a).1,(g3 l a).1,bes stamp (g2 l a).1⟩:=rfl
 generalize bes base (g1 l a).1=q0 at hrr ⊢;generalize (g4 l a).1=q1 at hrr ⊢;generalize (g5 l a).1=q2 at hrr ⊢;generalize (g3 l a).1=q3 at hrr ⊢;generalize bes stamp (g2 l a).1=q4 at hrr ⊢;generalize (g5 l a).2.1=x5;generalize (g5 l a).2.2=e5;generalize ry l a base stamp=R at hrr ⊢;have hckR:=hck R;subst hrr;dsimp only at hckR;intros;try refine dU ?_
 refine eK (fun e h=>e 11=.pointer (some ⟨b,0,none⟩)∧h=⟨G5,[.blk b [.slice A l.length c,.int .i64 x5,.int .i64 (if e5=0 then jW ⟨q0,q1,q2,q3,q4⟩else e5)],.reg 8 [.int .i64 q0,.string q1,.string q2,.bool q3,.int .i64 q4]],[]⟩) ?_ ?_
 ·intros;refine gR 57 61 c214r9.eq_1 ?_;refine⟨_,dZ (.head _) rfl,?_⟩;refine sI ?_;intros;refine gC ?_;refine gbD (fun k1=>?_) (fun k1=>?_)
  ·intros;refine gR 62 67 c214r10.eq_1 ?_;refine fK (hckR G5 _ _) ?_;refine ei [] [_] rfl (by simp) ⟨rfl,rfl⟩ ?_;refine sI ?_;intros;refine dT ?_;exact eC ⟨eE,by rw[if_pos k1]⟩
  ·intros;refine dT ?_;exact eC ⟨eE,by rw[if_neg k1]⟩
 rintro e h ⟨e11,rfl⟩;refine dX [11] ?_;refine sJ @e11 ?_;generalize hce:jW ⟨q0,q1,q2,q3,q4⟩=ce;have hck01:ce=0∨ce=1:=by
  rw[← hce];unfold jW;split
  ·exact .inl rfl
  ·exact .inr rfl
 generalize he':(if e5=0 then ce else e5)=e';intros;refine gR 67 71 c214r11.eq_1 ?_;refine⟨_,dZ (.head _) rfl,?_⟩;refine sI ?_;intros;refine gC ?_;refine gb (fun k1=>?_) (fun k1=>?_)
 ·have k1:=Kb k1;intros;refine dT ?_;refine pQ _ (.cons_cons _ (.cons _ J9)) (by decide) ?_;refine sJ c214r12.eq_1 ?_;refine⟨_,dZ (.head _) rfl,?_⟩;refine sI ?_;refine⟨ed Kd (.cons_cons _ (.cons _ J9)),?_⟩;refine sI ?_;intros;refine rW ?_;by_cases h5:e5=0
  ·rw[if_pos h5]at he';subst he';rw[if_pos h5,if_neg k1,hck01.resolve_left k1];rfl
  ·rw[if_neg h5]at he';subst he';rw[if_neg h5];rfl
 ·have k1:e'=0:=by simpa using k1
  intros;refine gN ?_;intros;refine dT ?_;refine pQ _ J9 (by decide) ?_;refine sJ c214r13.eq_1 ?_;refine⟨_,dZ (.head _) rfl,?_⟩;refine sI ?_;intros;refine rW ?_;by_cases h5:e5=0
  ·rw[if_pos h5]at he';rw[if_pos h5,if_pos (by rw[he'];exact k1)];rfl
  ·rw[if_neg h5]at he';rw[he']at h5;exact absurd k1 h5
theorem F219:Fun Tryz.prog 219 121 v219 c219 o219:=Fun.mkA Tryz.func219 Tryz.ntmps219
theorem Db(l:J3)(a:Int):g1 l a=fC l a:=qK rfl
theorem pE{l:J3}{a base stamp:Int}(h:inO base=true∧inO stamp=true∧0≤a∧a≤l.length):getR l a base stamp=(if (g5 l a).2.2=0 then(if jW (ry l a base stamp)=0 then(ry l a base stamp,(g5 l a).2.1,0)else(kM,0,1))else(kM,0,(g5 l a).2.2)):=if_pos h
theorem vn{l:J3}{a base stamp:Int}(h:inO base=true∧inO stamp=true∧0≤a∧a≤l.length)(h5:¬ (g5 l a).2.2=0):getR l a base stamp=(kM,0,(g5 l a).2.2):=by rw[pE h,if_neg h5]
theorem vE{l:J3}{a base stamp:Int}(h:inO base=true∧inO stamp=true∧0≤a∧a≤l.length)(h4:¬ (g4 l a).2.2=0):getR l a base stamp=(kM,0,(g4 l a).2.2):=by
 have h5:(g5 l a).2.2=(g4 l a).2.2:=by rw[g5,Cq h4]
 rw[vn h (by rw[h5];exact h4),h5]
theorem tG{l:J3}{a base stamp:Int}(h:inO base=true∧inO stamp=true∧0≤a∧a≤l.length)(h3:¬ (g3 l a).2.2=0):getR l a base stamp=(kM,0,(g3 l a).2.2):=by
 have h4:(g4 l a).2.2=(g3 l a).2.2:=by rw[g4,Cq h3]
 rw[vE h (by rw[h4];exact h3),h4]
theorem yc{l:J3}{a base stamp:Int}(h:inO base=true∧inO stamp=true∧0≤a∧a≤l.length)(h2:¬ (g2 l a).2.2=0):getR l a base stamp=(kM,0,(g2 l a).2.2):=by
 have h3:(g3 l a).2.2=(g2 l a).2.2:=by rw[g3,Cq h2]
 rw[tG h (by rw[h3];exact h2),h3]
theorem Bi{l:J3}{a base stamp:Int}(h:inO base=true∧inO stamp=true∧0≤a∧a≤l.length)(h1:¬ (g1 l a).2.2=0):getR l a base stamp=(kM,0,(g1 l a).2.2):=by
 have h2:(g2 l a).2.2=(g1 l a).2.2:=by rw[g2,Cq h1]
 rw[yc h (by rw[h2];exact h1),h2]
def rA(l:J3)(a base stamp:Int):Rec:=⟨tZ base (g1 l a).1,(g4 l a).1,(g5 l a).1,(g3 l a).1,tZ stamp (g2 l a).1⟩
theorem Fs(n d:Int):tZ n d=bes n d∨(inO (tZ n d)=false∧inO (bes n d)=false):=by
 unfold tZ bes;by_cases h:d < -1099511627776∨1099511627776 < d
 ·left;rw[if_pos h,if_pos (by omega)]
 ·rw[if_neg h];by_cases h2:inO (n+d)=false
  ·right;rw[if_pos (.inr (.inr h2))];exact⟨rfl,h2⟩
  ·left;rw[if_neg (fun hc=>by rcases hc with hc | hc | hc;omega;omega;exact h2 hc)]
theorem E4(l:J3)(a base stamp:Int):(rA l a base stamp=ry l a base stamp)∨(jW (rA l a base stamp)=1∧jW (ry l a base stamp)=1):=by
 rcases Fs base (g1 l a).1 with h1 | ⟨h1,h2⟩
 ·rcases Fs stamp (g2 l a).1 with h3 | ⟨h3,h4⟩
  ·left;rw[rA,ry,h1,h3]
  ·right;exact⟨iq (.inr (.inl h3)),iq (.inr (.inl h4))⟩
 ·right;exact⟨iq (.inl h1),iq (.inl h2)⟩
theorem v7{h:H}{b n:Nat}{cs:JU}(hm:Item.blk b cs∈h.L)(hn:cs.length=n):LdN h (.pointer (some ⟨b,0,none⟩)) (some n) (.agg cs.toArray) :=
 ⟨_,cs,rfl,rfl,hn,fun j u hu=>by rw[gV];exact .blk hm hu⟩
theorem Aw(l:J3)(a base stamp:Int)(v:Value)(G:JT)(hl:SB G v l):
  FnE Tryz.prog 219 #[v,.int .i64 a,.int .i64 base,.int .i64 stamp] G (fun r=>r=.tuple #[.agg (gJ (getR l a base stamp).1).toArray,.int .i64 (getR l a base stamp).2.1,.int .i64 (getR l a base stamp).2.2]):=by
 obtain⟨A,c,rfl,hc,hm,hA⟩:=id hl;unfold maxLen at hm;refine F219.fnE (by simp) (d7 ?_);unfold c219;have hck:=fun x=>mQ x
 unfold gJ at hck;intros;refine gR 0 0 c219r0.eq_1 ?_;intros;refine gR 25 26 c219r1.eq_1 ?_
 have hb3:∀ (fr:J0) (e:Env),getR l a base stamp=(kM,0,1)→go none Tryz.prog 121 v219.1 v219.2 (fB o219 fun v _=>v=.tuple #[.agg (gJ (getR l a base stamp).1).toArray,.int .i64 (getR l a base stamp).2.1,.int .i64 (getR l a base stamp).2.2]) (Td.s ((SC.reg false c219r3).seq .ret) :: fr) e ⟨G,[.reg 11 [.int .i64 0,.string ⟨#[]⟩,.string ⟨#[]⟩,.bool false,.int .i64 0],.reg 8 [.int .i64 0,.string ⟨#[]⟩,.string ⟨#[]⟩,.bool false,.int .i64 0]],[]⟩:=by
  intro fr e hx;intros;refine gR 44 45 c219r3.eq_1 ?_;intros;refine rW ?_;rw[hx];rfl
 have hng:¬ (inO base=true∧inO stamp=true∧0≤a∧a≤l.length)→getR l a base stamp=(kM,0,1):=fun h=>if_neg h
 intros;refine gR 26 43 c219r2.eq_1 ?_;refine fK (sn base G _ _) ?_;refine gd (fun h1=>?_) (fun h1=>?_)
 ·refine sI ?_;intros;refine gC ?_;exact hb3 _ _ (hng fun h=>by rw[h.1]at h1;cases h1)
 refine sI ?_;refine fK (sn stamp G _ _) ?_;refine gd (fun h2=>?_) (fun h2=>?_)
 ·refine sI ?_;intros;refine gC ?_;exact hb3 _ _ (hng fun h=>by rw[h.2.1]at h2;cases h2)
 refine sI ?_;refine gd (fun h3=>?_) (fun h3=>?_)
 ·refine sI ?_;intros;refine gC ?_;exact hb3 _ _ (hng fun h=>by have:=Kb h3;omega)
 refine sI ?_;intros;refine gC ?_;refine gb (fun h4=>?_) (fun h4=>?_)
 ·exact hb3 _ _ (hng fun h=>by have:=Kb h4;omega)
 have h1:inO base=true:=by simpa using h1
 have h2:inO stamp=true:=by simpa using h2
 have h3:=Kc h3;have h4:=Kc h4;have hb:0≤base∧base≤1099511627776:=by simpa [inO]using h1
 have hs:0≤stamp∧stamp≤1099511627776:=by simpa [inO]using h2
 have hin:inO base=true∧inO stamp=true∧0≤a∧a≤l.length:=⟨h1,h2,by omega,by omega⟩;clear hb3 hng
 -- the first number
 intros;refine gN ?_;intros;refine gR 45 52 c219r4.eq_1 ?_;refine fK (iC l a _ G hl _ _) ?_;rw[← Db];intros;refine gR 52 53 c219r5.eq_1 ?_;intros;refine gC ?_;refine gb (fun k1=>?_) (fun k1=>?_)
 ·have k1:=Kb k1;intros;refine gR 54 56 c219r6.eq_1 ?_;intros;refine rW ?_;rw[Bi hin k1];rfl
 have k1:(g1 l a).2.2=0:=by simpa using k1
 have e2:g2 l a=fC l (g1 l a).2.1:=qK k1
 -- the second one
 intros;refine gN ?_;intros;refine gR 56 63 c219r7.eq_1 ?_;refine fK (iC l _ _ G hl _ _) ?_;rw[← e2];intros;refine gR 63 64 c219r8.eq_1 ?_;intros;refine gC ?_;refine gb (fun k2=>?_) (fun k2=>?_)
 ·have k2:=Kb k2;intros;refine gR 65 67 c219r9.eq_1 ?_;intros;refine rW ?_;rw[yc hin k2];rfl
 have k2:(g2 l a).2.2=0:=by simpa using k2
 have e3:g3 l a=rb l (g2 l a).2.1.toNat:=qK k2;have hj0:=Fv l a;generalize hj:(g2 l a).2.1=j at e3 hj0 ⊢;obtain⟨j,rfl⟩:∃ n:Nat,j=n:=⟨j.toNat,by omega⟩;rw[Int.toNat_natCast]at e3
 -- the byte
 intros;refine gN ?_;intros;refine gR 67 70 c219r10.eq_1 ?_;intros;refine gC ?_;refine gbD (fun k3=>?_) (fun k3=>?_)
 ·have e3':g3 l a=(false,0,10):=by rw[e3,rb,List.getElem?_eq_none (by omega)]
  intros;refine gR 71 72 c219r11.eq_1 ?_;intros;refine rW ?_;rw[tG hin (by rw[e3'];decide),e3'];rfl
 obtain⟨y,hy⟩:∃ y,l[j]?=some y:=⟨l[j]'(by omega),getElem?_eq_getElem _⟩;rw[rb,hy]at e3;dsimp only at e3;intros;refine gN ?_;intros;refine gR 72 76 c219r12.eq_1 ?_;refine hA.x_l1 hy rfl rfl ?_;rintro a1 ha1 u hu;cases hu;refine sI ?_;intros;refine gC ?_;refine gbD (fun k4=>?_) (fun k4=>?_)
 ·rw[if_pos (by omega)]at e3;intros;refine gR 77 78 c219r13.eq_1 ?_;intros;refine rW ?_;rw[tG hin (by rw[e3];decide),e3];rfl
 rw[if_neg (by omega)]at e3;have hw:=eY j l.length (by omega) (by unfold maxLen;omega);have e4:g4 l a=ky l ((j:Int)+1) 64:=by rw[g4,qK (by rw[e3]),e3]
 -- the texts
 intros;refine gN ?_;intros;refine gR2 78 86 c219r14.eq_1 @hw ?_;refine fK (mS l _ 64 _ G hl _ _) ?_;rw[← e4];intros;refine gR 86 87 c219r15.eq_1 ?_;intros;refine gC ?_;refine gb (fun k5=>?_) (fun k5=>?_)
 ·have k5:=Kb k5;intros;refine gR 88 90 c219r16.eq_1 ?_;intros;refine rW ?_;rw[vE hin k5];rfl
 have k5:(g4 l a).2.2=0:=by simpa using k5
 have e5:g5 l a=ky l (g4 l a).2.1 64:=qK k5;intros;refine gN ?_;intros;refine gR 90 97 c219r17.eq_1 ?_;refine fK (mS l _ 64 _ G hl _ _) ?_;rw[← e5];intros;refine gR 97 98 c219r18.eq_1 ?_;intros;refine gC ?_;refine gb (fun k6=>?_) (fun k6=>?_)
 ·have k6:=Kb k6;intros;refine gR 99 101 c219r19.eq_1 ?_;intros;refine rW ?_;rw[vn hin k6];rfl
 have k6:(g5 l a).2.2=0:=by simpa using k6
 rw[pE hin,if_pos k6];have hrr:rA l a base stamp=⟨tZ base (g1 l a).1,(g4 l a).1,(g5 l a).1,decide ((y.toNat:Int)=1),tZ stamp (g2 l a).1⟩:=by
  rw[rA,e3];congr 1;simp;omega
 have hchk:=E4 l a base stamp;generalize (g4 l a).1=q1 at hrr ⊢;generalize (g5 l a).1=q2 at hrr ⊢;have hb1:=n9 base (g1 l a).1 hb G;have hb2:=n9 stamp (g2 l a).1 hs G;generalize tZ base (g1 l a).1=q0 at hrr hb1;generalize tZ stamp (g2 l a).1=q4 at hrr hb2;generalize hq3:decide ((y.toNat:Int)=1)=q3 at hrr;have hckR:=hck (rA l a base stamp);generalize rA l a base stamp=RX at hrr hckR hchk;subst hrr
 dsimp only at hckR;intros;refine gN ?_;intros;try refine dU ?_
 refine eK (fun e h=>∃ bk,e 24=.pointer (some ⟨bk,0,none⟩)∧e 22=.int .i64 (g5 l a).2.1∧h=⟨G,[.blk bk [.int .i64 q0,.string q1,.string q2,.bool q3,.int .i64 q4],.reg 11 [.int .i64 0,.string ⟨#[]⟩,.string ⟨#[]⟩,.bool false,.int .i64 0],.reg 8 [.int .i64 0,.string ⟨#[]⟩,.string ⟨#[]⟩,.bool false,.int .i64 0]],[]⟩) ?_ ?_
 ·intros;refine dT ?_;refine yY _ J9 (by decide) ?_;refine sJ c219r20.eq_1 ?_;refine hA.y_l1 hy rfl rfl ?_;rintro a1 ha1 u hu;cases hu;refine sJ @hq3 ?_;refine⟨?_,?_⟩
  ·refine fK (hb1 _ _) ?_;refine⟨?_,?_⟩
   ·refine fK (hb2 _ _) ?_;intro bk hbk;refine⟨ed Kd (.cons _ J9),?_⟩;refine sI ?_;refine ei [] [_,_] rfl (by simp) ⟨rfl,rfl⟩ ?_;refine sI ?_;refine⟨ed Kd (.cons _ J9),?_⟩;refine sI ?_;exact eC ⟨bk,eE,eE,rfl⟩
   ·intro bk hbk;refine⟨ed Kd (.cons _ J9),?_⟩;refine sI ?_;refine fK (hb2 _ _) ?_;refine⟨ed Kd (.cons _ J9),?_⟩;refine sI ?_;refine ei [] [_,_] rfl (by simp) ⟨rfl,rfl⟩ ?_;refine sI ?_;refine⟨ed Kd (.cons _ J9),?_⟩;refine sI ?_;exact eC ⟨bk,eE,eE,rfl⟩
  ·intro bk hbk;refine⟨ed Kd (.cons _ J9),?_⟩;refine sI ?_;refine fK (hb1 _ _) ?_;refine⟨ed Kd (.cons _ J9),?_⟩;refine sI ?_;refine fK (hb2 _ _) ?_;refine⟨ed Kd (.cons _ J9),?_⟩;refine sI ?_;refine ei [] [_,_] rfl (by simp) ⟨rfl,rfl⟩ ?_;refine sI ?_;refine⟨ed Kd (.cons _ J9),?_⟩;refine sI ?_;exact eC ⟨bk,eE,eE,rfl⟩
 rintro e h ⟨bk,e24,e22,rfl⟩;refine dX [22,24] ?_;refine sJ2 @e22 @e24 ?_;intros;refine gR 115 117 c219r21.eq_1 ?_;refine⟨_,v7 (.head _) rfl,?_⟩;refine sI ?_;refine fK (hckR G _ _) ?_;intros;refine gC ?_;refine gb (fun k7=>?_) (fun k7=>?_)
 ·have k7:=Kb k7;intros;refine gR 118 119 c219r22.eq_1 ?_;intros;refine rW ?_;rcases hchk with h | ⟨_,h⟩
  ·rw[← h,if_neg k7];rfl
  ·rw[h];rfl
 have k7:jW ⟨q0,q1,q2,q3,q4⟩=0:=by simpa using k7
 intros;refine gN ?_;intros;refine gR 119 121 c219r23.eq_1 ?_;refine⟨_,v7 (.head _) rfl,?_⟩;refine sI ?_;intros;refine rW ?_;rcases hchk with h | ⟨h,_⟩
 ·rw[← h,if_pos k7];rfl
 ·rw[h]at k7;cases k7
theorem F197:Fun Tryz.prog 197 33 v197 c197 o197:=Fun.mkA Tryz.func197 Tryz.ntmps197
theorem F208:Fun Tryz.prog 208 37 v208 c208 o208:=Fun.mkA Tryz.func208 Tryz.ntmps208
theorem qW(n k:Nat):kc n (k+1)=kc (n / 256) k++[UInt8.ofNat n]:=by
 unfold kc;rw[List.range_succ,List.map_append];congr 1
 ·apply List.map_congr_left;intro i hi;have hi:=List.mem_range.1 hi;congr 1;rw[Nat.div_div_eq_div_mul,show k+1 - 1 - i=(k - 1 - i)+1 by omega,Nat.pow_succ,Nat.mul_comm]
 ·simp
theorem pU(l:J3)(x:UInt8):kH (l++[x])=kH l * 256+x.toNat:=by simp[kH]
theorem mY:∀ (k:Nat) (l:J3),l.length=k→kc (kH l) k=l
 | 0,l,h=>by
  have:l=[]:=List.eq_nil_of_length_eq_zero h;subst this;rfl
 | k+1,l,h=>by
  obtain⟨m,x,rfl⟩:∃ m x,l=m++[x]:=by
   have hne:l≠[]:=by intro h0;rw[h0]at h;cases h
   exact⟨l.dropLast,l.getLast hne,(List.dropLast_concat_getLast hne).symm⟩
  have hx:=x.toNat_lt;have hl:m.length=k:=by simpa using h
  rw[qW,pU,show(kH m * 256+x.toNat) / 256=kH m by omega,mY k m hl];congr 1;have:UInt8.ofNat (kH m * 256+x.toNat)=x:=by
   apply UInt8.toNat_inj.1;simp
  rw[this]
theorem nB:∀ (k n:Nat),n < 256 ^ k→kH (kc n k)=n
 | 0,n,h=>by
  have:n=0:=by simpa using h
  subst this;rfl
 | k+1,n,h=>by
  rw[Nat.pow_succ]at h;rw[qW,pU,nB k (n / 256) (by omega)];simp;try omega
def gX(l:J3):J3 × Int:=if l.length < 4 then([],10)else if l.drop (l.length - 4)=kc (Ar (l.take (l.length - 4))).toNat 4 then(l.take (l.length - 4),0)else([],20)
theorem zN{a:W32}{m:J3}(hm:m.length=4):kH m=a.toNat↔m=kc a.toNat 4:=by
 constructor
 ·intro h;rw[← h,mY 4 m hm]
 ·intro h;rw[h,nB 4 _ (by have:=a.isLt;omega)]
theorem Dr(l:J3)(v:Value)(G:JT)(hl:SB G v l)(hb:l.length≤1000000):FnO Tryz.prog 197 #[v] G [] (fun _ L' r=>ym (gX l) L' r):=by
 obtain⟨A,c,rfl,hc,hm,hA⟩:=id hl;refine F197.fnO (by simp) dS (d7 ?_);unfold c197;have w1:IntKind.i64.wrap ((l.length:Int) - 4)=(l.length:Int) - 4:=by rw[eh] <;> omega
 intros;refine gR 0 0 c197r0.eq_1 ?_;intros;refine gR2 7 10 c197r1.eq_1 @w1 ?_;intros;refine gR 10 11 c197r2.eq_1 ?_;intros;refine gC ?_;refine gbD (fun h1=>?_) (fun h1=>?_)
 ·intros;refine gR 0 0 c197r3.eq_1 ?_;intros;refine dT ?_;refine dW (ew none 5 1) ?_;refine ea (ee _ rfl J9 (dV dS) ?_);rw[gX,if_pos (by omega)];exact⟨_,rfl,[],.nil,rfl⟩
 obtain⟨k,hk⟩:∃ k,l.length=k+4:=⟨l.length - 4,by omega⟩;have hn:((l.length:Int) - 4)=(k:Int):=by omega
 obtain⟨w,hw⟩:∃ w,w=Ar (l.take k):=⟨_,rfl⟩;have hop:gX l=if l.drop k=kc w.toNat 4 then(l.take k,0)else([],20):=by rw[gX,if_neg (by omega),show l.length - 4=k by omega,← hw]
 have hd:(l.drop k).length=4:=by simp;omega
 have hng:=vR l k 4 (by omega) _ G hl;rw[jN,if_neg (by omega),List.take_of_length_le (by omega)]at hng;have hinj:=zN (a:=w) hd;have hpre:=SlV.pre k hl (by omega);have hsum:=Bn (l.take k) _ G hpre;rw[← hw]at hsum;unfold vW at hsum;obtain⟨x,hx⟩:∃ x,x=kH (l.drop k):=⟨_,rfl⟩;rw[← hx]at hng hinj;dsimp only at hng;rw[hn]
 have hbad:¬ l.drop k=kc w.toNat 4→∀ (fr:J0) (e:Env) (G':JT),go none Tryz.prog 33 v197.1 v197.2 (fB o197 fun v h=>ym (gX l) h.L v) (Td.s ((SC.reg false c197r6).seq .ret) :: fr) e ⟨G',[],[]⟩:=fun hx fr e G'=>by
  intros;refine gR 0 0 c197r6.eq_1 ?_;intros;refine dT ?_;refine dW (ew none 5 1) ?_;refine ea (ee _ rfl J9 (dV dS) ?_);rw[hop,if_neg hx];exact⟨_,rfl,[],.nil,rfl⟩
 intros;refine gN ?_;intros;refine gR 12 18 c197r4.eq_1 ?_;refine fK (hng _ _) ?_;intros;refine gR 18 28 c197r5.eq_1 ?_;refine gd (fun h=>by simp at h) (fun _=>?_);refine sI ?_;refine⟨by omega,?_⟩;refine(hsum _ _).mono ?_;rintro r h' ⟨G1,rfl,hg1,rfl⟩;refine sJ @EA ?_;intros;refine gC ?_;refine gb (fun h2=>?_) (fun h2=>?_)
 ·have h2:=Kb h2;exact hbad (fun h=>h2 (by rw[hinj.2 h])) _ _ _
 have h2:l.drop k=kc w.toNat 4:=hinj.1 (by have:=Kc h2;omega);clear hbad;intros;refine gN ?_;intros;refine gR 29 33 c197r7.eq_1 ?_;refine⟨by omega,?_⟩;refine ki (.inr ⟨⟨none,rfl⟩,rfl,rfl,rfl,rfl⟩) (SB.le hpre hg1) rfl UE1 (by simp;unfold maxLen;omega) fun ys A c hc=>?_
 simp only[Nat.zero_add,List.nil_append];refine sI ?_;intros;refine dT ?_;refine ea (ee _ rfl J9 (dV dS) ?_);rw[hop,if_pos h2];exact⟨_,rfl,ys,hc,rfl⟩
theorem yy(l:J3)(v:Value)(G:JT)(hl:SB G v l)(hb:l.length≤1000000):FnO Tryz.prog 208 #[v] G [] (fun _ L' r=>ym (gX l) L' r):=by
 obtain⟨A,c,rfl,hc,hm,hA⟩:=id hl;refine F208.fnO (by simp) dS (d7 ?_);unfold c208;have w1:IntKind.i64.wrap ((l.length:Int) - 4)=(l.length:Int) - 4:=by rw[eh] <;> omega
 intros;refine gR 0 0 c208r0.eq_1 ?_;intros;refine gR2 7 10 c208r1.eq_1 @w1 ?_;intros;refine gR 10 11 c208r2.eq_1 ?_;intros;refine gC ?_;refine gbD (fun h1=>?_) (fun h1=>?_)
 ·intros;refine gR 0 0 c208r3.eq_1 ?_;intros;refine dT ?_;refine dW (ew none 5 1) ?_;refine ea (ee _ rfl J9 (dV dS) ?_);rw[gX,if_pos (by omega)];exact⟨_,rfl,[],.nil,rfl⟩
 obtain⟨k,hk⟩:∃ k,l.length=k+4:=⟨l.length - 4,by omega⟩;have hn:((l.length:Int) - 4)=(k:Int):=by omega
 obtain⟨w,hw⟩:∃ w,w=Ar (l.take k):=⟨_,rfl⟩;have hop:gX l=if l.drop k=kc w.toNat 4 then(l.take k,0)else([],20):=by rw[gX,if_neg (by omega),show l.length - 4=k by omega,← hw]
 have hd:(l.drop k).length=4:=by simp;omega
 have hpre:=SlV.pre k hl (by omega);have hsum:=vG (l.take k) _ G hpre;rw[← hw]at hsum;have hp4:=fP w.toNat 4;rw[hn];intros;refine gN ?_;intros;refine gR 12 17 c208r4.eq_1 ?_;refine⟨by omega,?_⟩;refine fK (hsum _ _) ?_;refine(vF (by decide) (xL w G) _ []).mono ?_;rintro r h' ⟨G1,rfl,hg1,B,d,rfl,hd1,hd2,hB⟩;generalize hq:kc w.toNat 4=q at hB hop hp4;have hA1:=hA.le hg1 (E':=UE) Kd;refine sI ?_
 intros;refine gR 0 0 c208r5.eq_1 ?_;intros;refine dT ?_;refine ej (fun e h=>∃ i:Nat,(i≤4∧(l.drop k).take i=q.take i)∧e 6=.int .i64 i∧e 4=.int .i64 k∧e 0=.slice A l.length c∧e 5=.slice B q.length d∧h=⟨G1,[],[]⟩) (fun e h=>4 - iv (e 6)) ?_ ?_
 ·exact⟨0,⟨Nat.zero_le _,rfl⟩,eE,eE,eE,eE,rfl⟩
 ·rintro e h ⟨i,⟨hi,htk⟩,e6,e4,e0,e5,rfl⟩;refine dX [0,4,5,6] ?_;refine sJ4 @e0 @e4 @e5 @e6 ?_;intros;refine gR 17 18 c208r6.eq_1 ?_;intros;refine gC ?_;refine gb (fun h2=>?_) (fun h2=>?_)
  ·have hi4:i < 4:=by have:=Kb h2;omega
   have hw3:=eY i 4 hi4 (by unfold maxLen;omega);have w2:IntKind.i64.wrap ((k:Int)+i)=((k+i:Nat):Int):=by rw[eh] <;> omega
   obtain⟨x,hx⟩:∃ x,(l.drop k)[i]?=some x:=⟨(l.drop k)[i]'(by omega),getElem?_eq_getElem _⟩;obtain⟨y,hy⟩:∃ y,q[i]?=some y:=⟨q[i]'(by omega),getElem?_eq_getElem _⟩;have hx':l[k+i]?=some x:=by rw[← List.getElem?_drop];exact hx
   intros;refine gN ?_;intros;refine dT ?_;refine pP 21 31 (by decide) ?_;refine sJ2 c208r7.eq_1 @w2 ?_;refine hA1.y_l1 hx' (by omega) rfl ?_;rintro a1 ha1 u hu;cases hu;refine sI ?_;refine hB.y_l1 hy rfl rfl ?_;rintro a2 ha2 u hu;cases hu;refine sI ?_;intros;refine gC ?_;refine gb (fun h3=>?_) (fun h3=>?_)
   ·have h3:=Kb h3;intros;refine gR 0 0 c208r8.eq_1 ?_;intros;refine dT ?_;refine dW (ew none 5 1) ?_;refine ea (ee _ rfl J9 (dV dS) ?_);rw[hop,if_neg fun h=>h3 (by rw[h,hy]at hx;cases hx;rfl)];exact⟨_,rfl,[],.nil,rfl⟩
   ·have h3:x=y:=by have:=Kc h3;apply UInt8.toNat_inj.1;omega
    intros;refine gN ?_;intros;refine gR2 19 21 c208r9.eq_1 @hw3 ?_;intros;refine dT ?_;refine eC ⟨⟨i+1,⟨by omega,ku htk hx hy h3⟩,eE,eE,eE,eE,rfl⟩,?_⟩;refine sI ?_;omega
  ·have hi4:i=4:=by have:=Kc h2;omega
   subst hi4;rw[List.take_of_length_le (by omega),List.take_of_length_le (by omega)]at htk;refine eg ?_;refine sI ?_;intros;refine gR 32 37 c208r10.eq_1 ?_;intro bk hbk;refine⟨by omega,?_⟩;refine ki (.inr ⟨⟨_,rfl⟩,rfl,rfl,rfl,rfl⟩) (SB.le hpre hg1) rfl UE1 (by simp;unfold maxLen;omega) fun ys A c hc=>?_
   simp only[Nat.zero_add,List.nil_append];refine sI ?_;intros;refine dT ?_;refine ea (ee _ rfl J9 (dV dS) ?_);rw[hop,if_pos htk];exact⟨_,rfl,ys,hc,rfl⟩
theorem F212:Fun Tryz.prog 212 18 v212 c212 o212:=Fun.mkA Tryz.func212 Tryz.ntmps212
theorem F198:Fun Tryz.prog 198 155 v198 c198 o198:=Fun.mkA Tryz.func198 Tryz.ntmps198
def mw(l:J3):Nat→Option (J6 × Nat)
 | 0=>some ([],0)
 | k+1=>(mw l k).bind fun r=>if (fC l r.2).2.2=0 then some (r.1++[(fC l r.2).1],(fC l r.2).2.1.toNat)else none
def gH(l:J3)(base stamp:Int)(p:Nat):Nat→Option (List Rec × Nat)
 | 0=>some ([],p)
 | k+1=>(gH l base stamp p k).bind fun r=>if (getR l r.2 base stamp).2.2=0 then some (r.1++[(getR l r.2 base stamp).1],(getR l r.2 base stamp).2.1.toNat)else none
def xy(rs:List Rec)(stamp:Int):Bool:=match rs with
 | []=>true
 | r :: _=>decide (r.stamp=stamp)
def mkB(ns:J6)(m:UInt8)(rs:List Rec):Batch:=⟨ns.getD 0 0,ns.getD 0 0+ns.getD 1 0,ns.getD 2 0,ns.getD 3 0,ns.getD 4 0,ns.getD 5 0,ns.getD 6 0,decide (4≤m.toNat),((m.toNat % 4:Nat):Int),rs⟩
def kN(l:J3)(ns:J6)(m:UInt8)(many:Nat)(s:Int × Int × Int):Option Batch :=
 if s.2.2=0 then(gH l (ns.getD 0 0) s.1 s.2.1.toNat many).bind fun r=>if r.2=l.length∧xy r.1 s.1=true then some (mkB ns m r.1)else none else none
def kg(l:J3)(ns:J6)(m:UInt8)(v:Int × Int × Int):Option Batch :=
 if v.2.2=0∧0≤v.1∧v.1≤16 then kN l ns m v.1.toNat (if 0 < v.1 then fC l v.2.1 else(0,v.2.1,0))else none
def kn(w:Int)(l:J3)(q:J6 × Nat):Option Batch :=
 (l[q.2]?).bind fun m=>if m.toNat < 8∧(0≤q.1.getD 0 0∧q.1.getD 0 0≤1099511627776)∧(0≤q.1.getD 1 0∧q.1.getD 1 0≤w)then kg l q.1 m (fC l ((q.2:Int)+1))else none
def eV(w:Int)(l:J3):Option Batch:=(mw l 7).bind (kn w l)
theorem mR{l:J3}:∀ (j k:Nat),mw l k=none→mw l (k+j)=none
 | 0,_,h=>h
 | j+1,k,h=>by rw[← Nat.add_assoc,mw,mR j k h];rfl
theorem lU{l:J3}{base stamp:Int}{p:Nat}:∀ (j k:Nat),gH l base stamp p k=none→gH l base stamp p (k+j)=none
 | 0,_,h=>h
 | j+1,k,h=>by rw[← Nat.add_assoc,gH,lU j k h];rfl
theorem uZ{l:J3}{base stamp:Int}{p many:Nat}{q:List Rec × Nat}(h:gH l base stamp p many=some q):∀ k,k≤many→∃ q2,gH l base stamp p k=some q2∧∃ t,q.1=q2.1++t:=by
 induction many generalizing q with
 | zero =>
  intro k hk;have:k=0:=by omega
  subst this;exact⟨q,h,[],by simp⟩
 | succ n ih =>
  intro k hk;by_cases hkn:k=n+1
  ·subst hkn;exact⟨q,h,[],by simp⟩
  ·rw[gH]at h;cases hn:gH l base stamp p n with
   | none=>rw[hn]at h;cases h
   | some q1 =>
    rw[hn]at h;simp only[Option.bind_some]at h;split at h
    ·cases h;obtain⟨q2,h2,t,ht⟩:=ih hn k (by omega);exact⟨q2,h2,t++[_],by dsimp only;rw[ht,List.append_assoc]⟩
    ·cases h
theorem mT(l:J3)(a:Int)(ok:Bool)(b1 b3 b4:Nat)(v:Value)(G:JT)(hl:SB G v l)(h1:fw G ⟨b1,0,none⟩=some v):
  FnO Tryz.prog 212 #[.pointer (some ⟨b1,0,none⟩),.pointer (some ⟨b4,0,none⟩),.pointer (some ⟨b3,0,none⟩)] G [.blk b4 [.int .i64 a],.blk b3 [.bool ok]]
   (fun G' L' r=>G=G'∧r=.int .i64 (if (fC l a).2.2=0 then(fC l a).1 else 0)∧L'=[.blk b4 [.int .i64 (if (fC l a).2.2=0 then(fC l a).2.1 else a)],.blk b3 [.bool (if (fC l a).2.2=0 then ok else false)]]):=by
 refine F212.fnO (by simp) (ec (ec dS)) (d7 ?_);unfold c212;have hgv:=ls l a v G hl;intros;refine gR 0 0 c212r0.eq_1 ?_;intros;refine gR 7 14 c212r1.eq_1 ?_;refine⟨_,⟨_,rfl,.g h1⟩,?_⟩;refine sI ?_;refine⟨_,dZ (.head _) rfl,?_⟩;refine fK (hgv _ _) ?_;intros;refine gR 14 15 c212r2.eq_1 ?_;intros;refine gC ?_;refine gb (fun k1=>?_) (fun k1=>?_)
 ·have k1:=Kb k1;intros;refine gR 0 0 c212r3.eq_1 ?_;refine ei [_] [] rfl (by simp) ⟨rfl,rfl⟩ ?_;refine sI ?_;intros;refine gR 0 0 c212r4.eq_1 ?_;intros;refine dT ?_;refine ea (ee _ rfl J9 (ec (ec dS)) ?_);rw[if_neg k1,if_neg k1,if_neg k1];exact⟨rfl,rfl,rfl⟩
 ·have k1:(fC l a).2.2=0:=by simpa using k1
  intros;refine gN ?_;intros;refine gR 16 17 c212r5.eq_1 ?_;refine ei [] [_] rfl (by simp) ⟨rfl,rfl⟩ ?_;refine sI ?_;intros;refine gR 17 18 c212r6.eq_1 ?_;intros;refine dT ?_;refine ea (ee _ rfl J9 (ec (ec dS)) ?_);rw[if_pos k1,if_pos k1,if_pos k1];exact⟨rfl,rfl,rfl⟩
def pj(ns:J6):JU:=ns.map fun n=>.int .i64 n
theorem om{zs:J6}{k:Nat}{x:Int}(hk:k < zs.length):eu (pj zs) k [.int .i64 x]=pj (zs.set k x):=by
 rw[xC _ (by simpa [pj]using hk)];simp[pj]
theorem ta{zs:J6}{k:Nat}{x:Int}(hk:k < zs.length):(zs.set k x).take (k+1)=zs.take k++[x]:=by
 rw[List.take_succ_eq_append_getElem (by simpa using hk),List.take_set_of_le (Nat.le_refl _)];simp
theorem Il{x:UInt8}(h:x.toNat < 8):fl .and (.int .u8 (x.toNat:Int)) (.int .u8 4)=some (.int .u8 (if 4≤x.toNat then 4 else 0)):=by
 have key:∀ b:Fin 8,(BitVec.ofInt 8 ((b.val:Nat):Int) &&& BitVec.ofInt 8 4).toNat=if 4≤b.val then 4 else 0:=by decide +kernel
 have h2:=key ⟨x.toNat,h⟩;simp only[fl];rw[if_pos trivial];have h3:(BitVec.ofInt IntKind.u8.bits (x.toNat:Int) &&& BitVec.ofInt IntKind.u8.bits 4).toNat=if 4≤x.toNat then 4 else 0:=h2
 rw[h3];split <;> rfl
theorem yv{x:UInt8}(h:x.toNat < 8):fl .andNot (.int .u8 (x.toNat:Int)) (.int .u8 4)=some (.int .u8 ((x.toNat % 4:Nat):Int)):=by
 have key:∀ b:Fin 8,(BitVec.ofInt 8 ((b.val:Nat):Int) &&& ~~~ BitVec.ofInt 8 4).toNat=b.val % 4:=by decide +kernel
 have h2:=key ⟨x.toNat,h⟩;simp only[fl];rw[if_pos trivial];have h3:(BitVec.ofInt IntKind.u8.bits (x.toNat:Int) &&& ~~~ BitVec.ofInt IntKind.u8.bits 4).toNat=x.toNat % 4:=h2;rw[h3,IntKind.wrap_u8];congr 2;omega
def mq(w:Int)(l:J3)(G:JT)(r:Value):Prop:=∃ x cs ok,r=.tuple #[.agg cs.toArray,.bool ok]∧BE G x cs∧(if ok=true then eV w l=some x else eV w l=none)
theorem BE.zero{G:JT}:BE G ⟨0,0,0,0,0,0,0,false,0,[]⟩ [.int .i64 0,.int .i64 0,.int .i64 0,.int .i64 0,.int .i64 0,.int .i64 0,.int .i64 0,.bool false,.int .i64 0,.slice none 0 0]:=⟨none,0,rfl,⟨Nat.le_refl _,Nat.zero_le _,fun i x hx=>by simp at hx⟩,by decide,by decide,by decide,by decide,by decide,by decide,by decide,by decide⟩
theorem Fi(l:J3)(a:Int):I64 (if (fC l a).2.2=0 then(fC l a).1 else 0):=by
 split
 ·rename_i h;obtain⟨_,_,_,_,_,h⟩:=jM h;exact h
 ·decide
theorem ts{α:Type}{E:α→JU→Prop}{P:Program}{h:H}{d sz et nb:Nat}{l:JV}{e:Env}{K:J7}{u:Value}{b:Nat}{zs:List α}{zc cs:JU}{L1 L2:JW}{x:α}(hL:h.L=.row (.slice (some ⟨b,0,none⟩) 1 1) et sz 1 cs :: L1++.row u et sz zs.length zc :: L2)
  (hE:E x cs) (hl:cs.length=sz) (h1:∀ u∈cs,u.oneCell'=true) (hc:Cells E sz zs zc) (hz:zs.length≤1000000) (hnb:nb≤1000)
  (hk:∀ A' c' zc',Cells E sz (zs++[x]) zc'→kR P l d e K (.slice A' (zs++[x]).length c') ⟨h.G,.row (.slice (some ⟨b,0,none⟩) 1 1) et sz 1 cs :: L1++.row (.slice A' (zs++[x]).length c') et sz (zs++[x]).length zc' :: L2,h.D⟩) :
  apX P u (.slice (some ⟨b,0,none⟩) 1 1) et sz nb d l e h K:=by
 refine⟨.row (.slice (some ⟨b,0,none⟩) 1 1) et sz 1 cs :: L1,zs.length,zc,L2,1,cs,.inl hL,li (h:=h) (by rw[hL];exact .head _) h1 (by rw[hl,Nat.one_mul]),⟨?_,by unfold maxLen;omega⟩,fun A' c'=>?_⟩
 ·have:(zs.length+1) * nb≤1000001 * 1000:=Nat.mul_le_mul (by omega) hnb;omega
 ·have:=hk A' c' (zc++cs) (hc.app (.one hE hl));simp only[length_append,List.length_cons,List.length_nil,Nat.zero_add]at this;exact this
theorem vd(l:J3)(a base stamp:Int):RR (getR l a base stamp).1 (gJ (getR l a base stamp).1):=by
 have hz:RR kM (gJ kM):=⟨rfl,⟨by decide,by decide⟩,by decide,by decide⟩;unfold getR;split
 ·split
  ·split
   ·rename_i h;obtain⟨⟨h1,h2⟩,h3,h4⟩:=fH h;simp[inO]at h1 h2;refine⟨rfl,⟨?_,?_⟩,?_,?_⟩
    ·dsimp only;unfold I64;omega
    ·dsimp only;unfold I64;omega
    ·dsimp only;unfold maxLen;omega
    ·dsimp only;unfold maxLen;omega
   ·exact hz
  ·exact hz
 ·exact hz
theorem Bx(l:J3)(a most:Int):0≤(ky l a most).2.1:=by
 have:=kt l a;unfold ky;split
 ·split
  ·simp
  ·split
   ·simp
   ·split
    ·simp
    ·dsimp only;omega
 ·simp
theorem uV(l:J3)(a base stamp:Int):0≤(getR l a base stamp).2.1:=by
 unfold getR;split
 ·split
  ·rename_i h5;split
   ·dsimp only;unfold g5 nx at h5 ⊢;split
    ·exact Bx _ _ _
    ·rename_i h4;rw[if_neg h4]at h5;exact absurd h5 h4
   ·simp
  ·simp
 ·simp
set_option maxHeartbeats 2000000 in
theorem Ak(l:J3)(v:Value)(G:JT)(hl:SB G v l)(hb:l.length≤1000000):FnD Tryz.prog 198 #[v] G (mq 15 l):=by
 refine F198.fnD (by simp) (d7 ?_);have hl00:=hl;obtain⟨A,c,rfl,hc,hm,hA⟩:=hl;unfold c198;intros;refine gR 0 0 c198r0.eq_1 ?_;intro b1 hb1;refine sI ?_;intro b3 hb3;refine sI ?_;intros;refine gR 0 0 c198r1.eq_1 ?_;intro b4 hb4;refine sI ?_;refine ei [] [_,_,_] rfl (by simp) ⟨rfl,rfl⟩ ?_;refine sI ?_;intros;refine gR 0 0 c198r2.eq_1 ?_;refine ei [_] [_,_] rfl (by simp) ⟨rfl,rfl⟩ ?_;refine sI ?_
 intros;refine gR 15 16 c198r3.eq_1 ?_;intros;refine gR 0 0 c198r4.eq_1 ?_;intro b6 hb6;refine sI ?_;intros;refine gR 0 0 c198r5.eq_1 ?_;intros;refine gN ?_;refine eI (eO [_,_,_,_] []) ?_;rintro h' ⟨G1,rfl,hg1,hcell⟩;have h1:fw G1 ⟨b1,0,none⟩=some (.slice A l.length c):=by have:=hcell 0 _ rfl;rwa [gV]at this
 clear hcell;have hl1:=SB.le hl00 hg1;refine dW (eL (L':=[.blk b4 [.int .i64 0],.blk b3 [.bool true],.blk b6 (pj [0,0,0,0,0,0,0]),.reg 2 [.int .i64 0,.int .i64 0,.int .i64 0,.int .i64 0,.int .i64 0,.int .i64 0,.int .i64 0,.bool false,.int .i64 0,.slice none 0 0]]) ((List.Perm.swap _ _ _).trans (List.Perm.cons _ (List.Perm.swap _ _ _)))) ?_;have hrest:∀ (e:Env),True:=fun _=>trivial
 refine eK (fun e h=>∃ (ns:J6) (a:Int) (ok:Bool),(ns.length=7∧(∀ z∈ns,I64 z)∧((ok=true∧0≤a∧mw l 7=some (ns,a.toNat))∨(ok=false∧mw l 7=none))) ∧
  (e 1=.pointer (some ⟨b1,0,none⟩)∧e 3=.pointer (some ⟨b3,0,none⟩)∧e 4=.pointer (some ⟨b4,0,none⟩)∧e 6=.pointer (some ⟨b6,0,none⟩)∧e 5=.func (.func 212) #[] #[.pointer (some ⟨b1,0,none⟩),.pointer (some ⟨b4,0,none⟩),.pointer (some ⟨b3,0,none⟩)]) ∧
  h=⟨G1,[.blk b4 [.int .i64 a],.blk b3 [.bool ok],.blk b6 (pj ns),.reg 2 [.int .i64 0,.int .i64 0,.int .i64 0,.int .i64 0,.int .i64 0,.int .i64 0,.int .i64 0,.bool false,.int .i64 0,.slice none 0 0]],[]⟩) ?_ ?_
 ·intros;refine dT ?_;refine ej (fun e h=>∃ (k:Nat) (zs:J6) (a:Int) (ok:Bool),(k≤7∧zs.length=7∧(∀ z∈zs,I64 z)∧((ok=true∧0≤a∧mw l k=some (zs.take k,a.toNat))∨(ok=false∧mw l 7=none)))∧e 16=.int .i64 k ∧
   e 1=.pointer (some ⟨b1,0,none⟩)∧e 3=.pointer (some ⟨b3,0,none⟩)∧e 4=.pointer (some ⟨b4,0,none⟩)∧e 6=.pointer (some ⟨b6,0,none⟩)∧e 5=.func (.func 212) #[] #[.pointer (some ⟨b1,0,none⟩),.pointer (some ⟨b4,0,none⟩),.pointer (some ⟨b3,0,none⟩)] ∧
   h=⟨G1,[.blk b4 [.int .i64 a],.blk b3 [.bool ok],.blk b6 (pj zs),.reg 2 [.int .i64 0,.int .i64 0,.int .i64 0,.int .i64 0,.int .i64 0,.int .i64 0,.int .i64 0,.bool false,.int .i64 0,.slice none 0 0]],[]⟩) (fun e h=>7 - iv (e 16)) ?_ ?_
  ·exact⟨0,[0,0,0,0,0,0,0],0,true,⟨Nat.zero_le _,rfl,by decide,.inl ⟨rfl,by omega,rfl⟩⟩,eE,eE,eE,eE,eE,eE,rfl⟩
  ·rintro e h ⟨k,zs,a,ok,⟨hk,hzl,hzi,hst⟩,e16,e1,e3,e4,e6,e5,rfl⟩;refine dX [1,3,4,5,6,16] ?_;refine sJ6 @e1 @e3 @e4 @e5 @e6 @e16 ?_;intros;refine gR 0 0 c198r6.eq_1 ?_;intros;refine gC ?_;refine gb (fun ht=>?_) (fun ht=>?_)
   ·have hk7:k < 7:=by have:=Kb ht;omega
    have hw:=eY k 7 hk7 (by unfold maxLen;omega);have hi:=Fi l a;intros;refine gN ?_;intros;refine gR 18 19 c198r7.eq_1 ?_;intros;refine gR 19 23 c198r8.eq_1 ?_;refine .inl ⟨_,_,rfl,?_⟩;refine(mT l a ok b1 b3 b4 _ G1 hl1 h1 _ []).mono ?_;rintro r h' ⟨G',L',rfl,-,rfl,rfl,rfl⟩;refine sI ?_;refine⟨by omega,?_⟩;rw[show 0+k * 1=k by omega];refine ei [_,_] [_] rfl (by simp[pj];omega) ⟨rfl,rfl⟩ ?_
    simp only[List.cons_append,List.nil_append];rw[om (by omega)];refine sI ?_;intros;refine gR2 23 24 c198r9.eq_1 @hw ?_;intros;refine dT ?_;refine eC ⟨⟨k+1,zs.set k (if (fC l a).2.2=0 then(fC l a).1 else 0),(if (fC l a).2.2=0 then(fC l a).2.1 else a),(if (fC l a).2.2=0 then ok else false),⟨by omega,by simp[hzl],fun z hz=>?_,?_⟩,eE,eE,eE,eE,eE,eE,rfl⟩,?_⟩
    ·rcases List.mem_or_eq_of_mem_set hz with h | h
     ·exact hzi z h
     ·rw[h];exact hi
    ·rcases hst with⟨h1,h2,h3⟩ | ⟨h1,h2⟩
     ·by_cases hv:(fC l a).2.2=0
      ·rw[if_pos hv,if_pos hv,if_pos hv];refine .inl ⟨h1,kt l a,?_⟩;rw[mw,h3,ta (by omega)];simp only[Option.bind_some];rw[Int.toNat_of_nonneg h2,if_pos hv]
      ·rw[if_neg hv,if_neg hv,if_neg hv];refine .inr ⟨rfl,?_⟩;have:mw l (k+1)=none:=by
        rw[mw,h3];simp only[Option.bind_some];rw[Int.toNat_of_nonneg h2,if_neg hv]
       have:=mR (7 - (k+1)) (k+1) this
       rwa [show k+1+(7 - (k+1))=7 by omega]at this
     ·refine .inr ⟨?_,h2⟩;rw[h1];split <;> rfl
    ·refine sI ?_;omega
   ·have hk7:k=7:=by have:=Kc ht;omega
    subst hk7;rw[List.take_of_length_le (by omega)]at hst;refine eg ?_;refine sI ?_;exact eC ⟨zs,a,ok,⟨hzl,hzi,hst⟩,⟨eE,eE,eE,eE,eE⟩,rfl⟩
 rintro e h ⟨ns,a,ok,⟨hnl,hni,hst⟩,⟨e1,e3,e4,e6,e5⟩,rfl⟩;refine dX [1,3,4,5,6] ?_;refine sJ5 @e1 @e3 @e4 @e5 @e6 ?_
 have hbad:∀ (fr:J0) (e:Env) (a:Int) (ok:Bool),eV 15 l=none→e 3=.pointer (some ⟨b3,0,none⟩)→go none Tryz.prog 155 v198.1 v198.2 (fB o198 fun v h=>mq 15 l h.G v) (Td.s ((SC.reg false c198r11).seq .ret) :: fr) e ⟨G1,[.blk b4 [.int .i64 a],.blk b3 [.bool ok],.blk b6 (pj ns),.reg 2 [.int .i64 0,.int .i64 0,.int .i64 0,.int .i64 0,.int .i64 0,.int .i64 0,.int .i64 0,.bool false,.int .i64 0,.slice none 0 0]],[]⟩:=fun fr e a ok hx e3=>by
  refine dX [3] ?_;refine sJ @e3 ?_;intros;refine gR 59 60 c198r11.eq_1 ?_;refine ei [_] [_,_] rfl (by simp) ⟨rfl,rfl⟩ ?_;refine sI ?_;intros;refine dT ?_;refine dW (dY (L':=[.blk b3 [.bool false],.reg 2 [.int .i64 0,.int .i64 0,.int .i64 0,.int .i64 0,.int .i64 0,.int .i64 0,.int .i64 0,.bool false,.int .i64 0,.slice none 0 0]]) (.cons _ (.cons_cons _ (.cons _ J9)))) ?_
  refine ea (je (out:=[.agg #[.int .i64 0,.int .i64 0,.int .i64 0,.int .i64 0,.int .i64 0,.int .i64 0,.int .i64 0,.bool false,.int .i64 0,.slice none 0 0],.bool false]) ?_ ?_)
  ·simp[o198,mr,Kx.getR,getB,uJ,ldC,Env.set]
  ·refine⟨_,_,false,rfl,BE.zero,?_⟩;exact hx
 obtain⟨n0,n1,n2,n3,n4,n5,n6,rfl⟩:∃ n0 n1 n2 n3 n4 n5 n6:Int,ns=[n0,n1,n2,n3,n4,n5,n6]:=by
  match ns,hnl with
  | [n0,n1,n2,n3,n4,n5,n6],_=>exact⟨n0,n1,n2,n3,n4,n5,n6,rfl⟩
 have m3:∀ {x y z u:Kx.Item} {L:JW},z∈x :: y :: z :: u :: L:=.tail _ (.tail _ (.head _));have m2:∀ {x y z u:Kx.Item} {L:JW},y∈x :: y :: z :: u :: L:=.tail _ (.head _);have hA1:=hA.le hg1 (E':=UE) Kd;unfold maxLen at hm;intros;try refine dU ?_
 refine eK (fun e h=>∃ (p:Nat) (m:UInt8),(mw l 7=some ([n0,n1,n2,n3,n4,n5,n6],p)∧l[p]?=some m∧m.toNat < 8∧(0≤n0∧n0≤1099511627776)∧0≤n1∧n1≤15) ∧
  (e 1=.pointer (some ⟨b1,0,none⟩)∧e 3=.pointer (some ⟨b3,0,none⟩)∧e 4=.pointer (some ⟨b4,0,none⟩)∧e 6=.pointer (some ⟨b6,0,none⟩)∧e 5=.func (.func 212) #[] #[.pointer (some ⟨b1,0,none⟩),.pointer (some ⟨b4,0,none⟩),.pointer (some ⟨b3,0,none⟩)]) ∧
  h=⟨G1,[.blk b4 [.int .i64 (p:Int)],.blk b3 [.bool true],.blk b6 (pj [n0,n1,n2,n3,n4,n5,n6]),.reg 2 [.int .i64 0,.int .i64 0,.int .i64 0,.int .i64 0,.int .i64 0,.int .i64 0,.int .i64 0,.bool false,.int .i64 0,.slice none 0 0]],[]⟩) ?_ ?_
 ·intros;refine gR 24 58 c198r10.eq_1 ?_;refine⟨_,dZ m2 rfl,?_⟩;refine sI ?_;refine gd (fun k0=>?_) (fun k0=>?_)
  ·have k0:ok=false:=by simpa using k0
   refine sI ?_;intros;refine gC ?_;rcases hst with⟨h,_⟩ | ⟨_,h⟩
   ·rw[h]at k0;cases k0
   ·refine hbad _ _ _ _ (by rw[eV,h];rfl) (eE)
  have k0:ok=true:=by simpa using k0
  subst k0;rcases hst with⟨-,ha,hnum⟩ | ⟨h,_⟩
  rotate_left
  ·cases h
  obtain⟨p,rfl⟩:∃ p:Nat,a=p:=⟨a.toNat,by omega⟩;rw[Int.toNat_natCast]at hnum;have hb2:kn 15 l ([n0,n1,n2,n3,n4,n5,n6],p)=none→eV 15 l=none:=fun h=>by rw[eV,hnum];exact h
  refine sI ?_;refine⟨_,dZ (.head _) rfl,?_⟩;refine sI ?_;refine⟨_,⟨_,rfl,.g h1⟩,?_⟩;refine sI ?_;refine gdD (fun k1=>?_) (fun k1=>?_)
  ·refine sI ?_;intros;refine gC ?_;refine hbad _ _ _ _ (hb2 ?_) (eE);rw[kn,List.getElem?_eq_none (by dsimp only;omega)];rfl
  obtain⟨m,hy⟩:∃ m,l[p]?=some m:=⟨l[p]'(by omega),getElem?_eq_getElem _⟩;have hb3:¬ (m.toNat < 8∧(0≤n0∧n0≤1099511627776)∧(0≤n1∧n1≤15))→eV 15 l=none:=fun h=>hb2 (by
   rw[kn,hy]
   simp only[Option.bind_some]
   exact if_neg h)
  refine sI ?_;refine⟨_,⟨_,rfl,.g h1⟩,?_⟩;refine sI ?_;refine⟨_,dZ (.head _) rfl,?_⟩;refine sI ?_;refine hA1.x_l1 hy rfl rfl ?_;rintro a1 ha1 u hu;cases hu;refine sI ?_;refine gdD (fun k2=>?_) (fun k2=>?_)
  ·refine sI ?_;intros;refine gC ?_;exact hbad _ _ _ _ (hb3 fun h=>by omega) (eE)
  refine sI ?_;refine⟨by omega,?_⟩;refine⟨_,dZ (o:=0) m3 rfl,?_⟩;refine sI ?_;refine gdD (fun k3=>?_) (fun k3=>?_)
  ·refine sI ?_;intros;refine gC ?_;exact hbad _ _ _ _ (hb3 fun h=>by omega) (eE)
  refine sI ?_;refine⟨by omega,?_⟩;refine⟨_,dZ (o:=0) m3 rfl,?_⟩;refine sI ?_;refine gdD (fun k4=>?_) (fun k4=>?_)
  ·refine sI ?_;intros;refine gC ?_;exact hbad _ _ _ _ (hb3 fun h=>by omega) (eE)
  refine sI ?_;refine⟨by omega,?_⟩;refine⟨_,dZ (o:=1) m3 rfl,?_⟩;refine sI ?_;refine gdD (fun k5=>?_) (fun k5=>?_)
  ·refine sI ?_;intros;refine gC ?_;exact hbad _ _ _ _ (hb3 fun h=>by omega) (eE)
  refine sI ?_;refine⟨by omega,?_⟩;refine⟨_,dZ (o:=1) m3 rfl,?_⟩;refine sI ?_;intros;refine gC ?_;refine gbD (fun k6=>?_) (fun k6=>?_)
  ·exact hbad _ _ _ _ (hb3 fun h=>by omega) (eE)
  intros;refine dT ?_;exact eC ⟨p,m,⟨hnum,hy,by omega,by omega,by omega,by omega⟩,⟨eE,eE,eE,eE,eE⟩,rfl⟩
 clear hbad hst;rintro e h ⟨p,m,⟨hnum,hy,hm8,hn0,hn1,hn1'⟩,⟨e1,e3,e4,e6,e5⟩,rfl⟩;have hpl:=(List.getElem?_eq_some_iff.1 hy).1;have hb3:eV 15 l=kg l [n0,n1,n2,n3,n4,n5,n6] m (fC l ((p:Int)+1)):=by
  rw[eV,hnum];simp only[Option.bind_some];rw[kn,hy];simp only[Option.bind_some];exact if_pos ⟨hm8,hn0,hn1,hn1'⟩
 refine dX [1,3,4,5,6] ?_;refine sJ5 @e1 @e3 @e4 @e5 @e6 ?_;have wp:=eY p l.length hpl (by unfold maxLen;omega);have wl:IntKind.i64.wrap (n0+n1)=n0+n1:=by rw[eh] <;> omega
 intros;refine gR 60 64 c198r12.eq_1 ?_;refine⟨_,⟨_,rfl,.g h1⟩,?_⟩;refine sI ?_;refine⟨_,dZ (.head _) rfl,?_⟩;refine sI ?_;refine hA1.x_l1 hy rfl rfl ?_;rintro a1 ha1 u hu;cases hu;refine sI ?_;intros;refine gR 64 66 c198r13.eq_1 ?_;refine⟨_,dZ (.head _) rfl,?_⟩;refine sJ @wp ?_;refine ei [] [_,_,_] rfl (by simp) ⟨rfl,rfl⟩ ?_;refine sI ?_;intros;refine gR 66 90 c198r14.eq_1 ?_;refine⟨by omega,?_⟩
 refine⟨_,dZ (o:=0) m3 rfl,?_⟩;refine sI ?_;refine⟨by omega,?_⟩;refine⟨_,dZ (o:=0) m3 rfl,?_⟩;refine sI ?_;refine⟨by omega,?_⟩;refine⟨_,dZ (o:=1) m3 rfl,?_⟩;refine sJ @wl ?_;refine⟨by omega,?_⟩;refine⟨_,dZ (o:=2) m3 rfl,?_⟩;refine sI ?_;refine⟨by omega,?_⟩;refine⟨_,dZ (o:=3) m3 rfl,?_⟩;refine sI ?_;refine⟨by omega,?_⟩;refine⟨_,dZ (o:=4) m3 rfl,?_⟩;refine sI ?_;refine⟨by omega,?_⟩
 refine⟨_,dZ (o:=5) m3 rfl,?_⟩;refine sI ?_;refine⟨by omega,?_⟩;refine⟨_,dZ (o:=6) m3 rfl,?_⟩;have htx:decide ((if 4≤m.toNat then(4:Int)else 0)≠0)=decide (4≤m.toNat):=by split <;> simp_all
 have hct:IntKind.i64.wrap ((m.toNat % 4:Nat):Int)=((m.toNat % 4:Nat):Int):=by rw[eh] <;> omega
 have hmk:∀ rs,mkB [n0,n1,n2,n3,n4,n5,n6] m rs=⟨n0,n0+n1,n2,n3,n4,n5,n6,decide (4≤m.toNat),((m.toNat % 4:Nat):Int),rs⟩:=fun _=>rfl
 have hcti:I64 ((m.toNat % 4:Nat):Int):=by unfold I64;omega
 generalize decide (4≤m.toNat)=tx at htx hmk;have han:=yv hm8;generalize ((m.toNat % 4:Nat):Int)=ct at hct hmk hcti han
 (try simp -implicitDefEqProofs only[mz,mE,push_cast,Nat.reduceBEq,Nat.reduceAdd,Nat.reduceSub,Nat.reduceMul,Nat.reduceLT,Nat.reduceLeDiff,Nat.reduceEqDiff,reduceIte,Bool.not_true,Bool.not_false,true_and,and_true,Option.map_some,Option.bind_some,Int.toNat_natCast,Il hm8,han,htx,hct])
 have m2':∀ {x y z u:Kx.Item} {L:JW},y∈x :: y :: z :: u :: L:=.tail _ (.head _);have hi7:I64 n0∧I64 (n0+n1)∧I64 n2∧I64 n3∧I64 n4∧I64 n5∧I64 n6:=⟨hni _ (by simp),by unfold I64;omega,hni _ (by simp),hni _ (by simp),hni _ (by simp),hni _ (by simp),hni _ (by simp)⟩
 -- how many records
 intros;refine gR 90 92 c198r15.eq_1 ?_;refine .inl ⟨_,_,rfl,?_⟩;refine(mT l ((p:Int)+1) true b1 b3 b4 _ G1 hl1 h1 _ []).mono ?_;rintro r h' ⟨G',L',rfl,-,rfl,rfl,rfl⟩;have hvok:=@jM l ((p:Int)+1);generalize fC l ((p:Int)+1)=v at hb3 hvok;refine sI ?_
 have hbad:∀ (fr:J0) (e:Env) (a:Int) (ok:Bool),eV 15 l=none→e 3=.pointer (some ⟨b3,0,none⟩)→go none Tryz.prog 155 v198.1 v198.2 (fB o198 fun v h=>mq 15 l h.G v) (Td.s ((SC.reg false c198r17).seq .ret) :: fr) e ⟨G1,[.blk b4 [.int .i64 a],.blk b3 [.bool ok],.blk b6 (pj [n0,n1,n2,n3,n4,n5,n6]),.reg 2 [.int .i64 n0,.int .i64 (n0+n1),.int .i64 n2,.int .i64 n3,.int .i64 n4,.int .i64 n5,.int .i64 n6,.bool tx,.int .i64 ct,.slice none 0 0]],[]⟩:=fun fr e a ok hx e3=>by
  refine dX [3] ?_;refine sJ @e3 ?_;intros;refine gR 102 103 c198r17.eq_1 ?_;refine ei [_] [_,_] rfl (by simp) ⟨rfl,rfl⟩ ?_;refine sI ?_;intros;refine dT ?_;refine dW (dY (L':=[.blk b3 [.bool false],.reg 2 [.int .i64 0,.int .i64 0,.int .i64 0,.int .i64 0,.int .i64 0,.int .i64 0,.int .i64 0,.bool false,.int .i64 0,.slice none 0 0]]) (.cons _ (.cons_cons _ (.cons _ J9)))) ?_
  refine ea (je (out:=[.agg #[.int .i64 0,.int .i64 0,.int .i64 0,.int .i64 0,.int .i64 0,.int .i64 0,.int .i64 0,.bool false,.int .i64 0,.slice none 0 0],.bool false]) ?_ ?_)
  ·simp[o198,mr,Kx.getR,getB,uJ,ldC,Env.set]
  ·exact⟨_,_,false,rfl,BE.zero,hx⟩
 intros;try refine dU ?_
 refine eK (fun e h=>(v.2.2=0∧0≤v.1∧v.1≤16)∧(e 1=.pointer (some ⟨b1,0,none⟩)∧e 3=.pointer (some ⟨b3,0,none⟩)∧e 4=.pointer (some ⟨b4,0,none⟩)∧e 5=.func (.func 212) #[] #[.pointer (some ⟨b1,0,none⟩),.pointer (some ⟨b4,0,none⟩),.pointer (some ⟨b3,0,none⟩)])∧e 9=.int .i64 v.1∧h=⟨G1,[.blk b4 [.int .i64 v.2.1],.blk b3 [.bool true],.blk b6 (pj [n0,n1,n2,n3,n4,n5,n6]),.reg 2 [.int .i64 n0,.int .i64 (n0+n1),.int .i64 n2,.int .i64 n3,.int .i64 n4,.int .i64 n5,.int .i64 n6,.bool tx,.int .i64 ct,.slice none 0 0]],[]⟩) ?_ ?_
 ·by_cases hv0:v.2.2=0
  ·have hbn:¬ (0≤v.1∧v.1≤16)→eV 15 l=none:=fun h=>by rw[hb3,kg,if_neg fun hc=>h hc.2]
   rw[if_pos hv0,if_pos hv0,if_pos hv0];intros;refine gR 92 101 c198r16.eq_1 ?_;refine⟨_,dZ m2' rfl,?_⟩;refine sI ?_;refine gdD (fun k1=>?_) (fun k1=>?_)
   ·refine sI ?_;intros;refine gC ?_;exact hbad _ _ _ _ (hbn fun h=>by omega) (eE)
   refine sI ?_;intros;refine gC ?_;refine gbD (fun k2=>?_) (fun k2=>?_)
   ·exact hbad _ _ _ _ (hbn fun h=>by omega) (eE)
   intros;refine dT ?_;exact eC ⟨⟨hv0,by omega,by omega⟩,⟨eE,eE,eE,eE⟩,eE,rfl⟩
  ·rw[if_neg hv0,if_neg hv0,if_neg hv0];intros;refine gR 92 101 c198r16.eq_1 ?_;refine⟨_,dZ m2' rfl,?_⟩;refine sI ?_;intros;refine gC ?_;exact hbad _ _ _ _ (by rw[hb3,kg,if_neg fun hc=>hv0 hc.1]) (eE)
 clear hbad;rintro e h ⟨⟨hv0,hv1,hv2⟩,⟨e1,e3,e4,e5⟩,e9,rfl⟩;obtain⟨many,hmany⟩:∃ n:Nat,v.1=n:=⟨v.1.toNat,by omega⟩;obtain⟨pv,-,hv21,-,hpv,-⟩:=hvok hv0;rw[hmany]at e9;have hpn:0≤v.2.1:=by omega
 have hb4:eV 15 l=kN l [n0,n1,n2,n3,n4,n5,n6] m many (if 0 < many then fC l v.2.1 else(0,v.2.1,0)):=by
  rw[hb3,kg,if_pos ⟨hv0,hv1,hv2⟩,hmany];simp only[Int.toNat_natCast];congr 1;by_cases h:0 < many
  ·rw[if_pos h,if_pos (by omega)]
  ·rw[if_neg h,if_neg (by omega)]
 refine dX [1,3,4,5,9] ?_;refine sJ5 @e1 @e3 @e4 @e5 @e9 ?_;have hmany16:many≤16:=by omega
 generalize v.2.1=p2 at hb4 hpn;clear hb3 hvok hv21 hpv;intros;refine gR 0 0 c198r18.eq_1 ?_;intros;try refine dU ?_
 refine eK (fun e h=>∃ (s:Int × Int × Int),(s=(if 0 < many then fC l p2 else(0,p2,0)))∧(e 1=.pointer (some ⟨b1,0,none⟩)∧e 3=.pointer (some ⟨b3,0,none⟩)∧e 4=.pointer (some ⟨b4,0,none⟩)∧e 5=.func (.func 212) #[] #[.pointer (some ⟨b1,0,none⟩),.pointer (some ⟨b4,0,none⟩),.pointer (some ⟨b3,0,none⟩)])∧e 9=.int .i64 (many:Int)∧e 10=.int .i64 (if s.2.2=0 then s.1 else 0)∧h=⟨G1,[.blk b4 [.int .i64 (if s.2.2=0 then s.2.1 else p2)],.blk b3 [.bool (if s.2.2=0 then true else false)],.blk b6 (pj [n0,n1,n2,n3,n4,n5,n6]),.reg 2 [.int .i64 n0,.int .i64 (n0+n1),.int .i64 n2,.int .i64 n3,.int .i64 n4,.int .i64 n5,.int .i64 n6,.bool tx,.int .i64 ct,.slice none 0 0]],[]⟩) ?_ ?_
 ·intros;refine gR 103 104 c198r19.eq_1 ?_;intros;refine gC ?_;refine gbD (fun k1=>?_) (fun k1=>?_)
  ·intros;refine gR 105 107 c198r20.eq_1 ?_;refine .inl ⟨_,_,rfl,?_⟩;refine(mT l p2 true b1 b3 b4 _ G1 hl1 h1 _ []).mono ?_;rintro r h' ⟨G',L',rfl,-,rfl,rfl,rfl⟩;refine sI ?_;intros;refine dT ?_;exact eC ⟨fC l p2,by rw[if_pos (by omega)],⟨eE,eE,eE,eE⟩,eE,eE,rfl⟩
  ·intros;refine dT ?_;exact eC ⟨(0,p2,0),by rw[if_neg (by omega)],⟨eE,eE,eE,eE⟩,eE,eE,rfl⟩
 rintro e h ⟨s,hs,⟨e1,e3,e4,e5⟩,e9,e10,rfl⟩;rw[← hs]at hb4;have hsn:0≤s.2.1:=by
  rw[hs];split
  ·exact kt _ _
  ·exact hpn
 clear hs;refine dX [1,3,4,9,10] ?_;refine sJ5 @e1 @e3 @e4 @e9 @e10 ?_;have hb5:eV 15 l=if s.2.2=0 then(gH l n0 s.1 s.2.1.toNat many).bind fun r=>if r.2=l.length∧xy r.1 s.1=true then some (mkB [n0,n1,n2,n3,n4,n5,n6] m r.1)else none else none:=hb4
 clear hb4;obtain⟨st,hst⟩:∃ st,st=(if s.2.2=0 then s.1 else 0):=⟨_,rfl⟩;rw[← hst];intros;refine gR 0 0 c198r21.eq_1 ?_;intros
 refine dW (dY (L':=[.blk b4 [.int .i64 (if s.2.2=0 then s.2.1 else p2)],.blk b3 [.bool (if s.2.2=0 then true else false)],.reg 2 [.int .i64 n0,.int .i64 (n0+n1),.int .i64 n2,.int .i64 n3,.int .i64 n4,.int .i64 n5,.int .i64 n6,.bool tx,.int .i64 ct,.slice none 0 0]]) (.cons_cons _ (.cons_cons _ (.cons _ J9)))) ?_;refine dW (ew none 103 5) ?_
 refine eK (fun e h=>∃ (rs:List Rec) (a:Int) (ok:Bool) (u:Value) (zc:JU) (G':JT),((ok=true∧s.2.2=0∧gH l n0 s.1 s.2.1.toNat many=some (rs,a.toNat)∧0≤a∧xy rs s.1=true)∨(ok=false∧eV 15 l=none))∧(rs.length≤16∧Gle G1 G'∧Cells RR 5 rs zc) ∧
  (e 1=.pointer (some ⟨b1,0,none⟩)∧e 3=.pointer (some ⟨b3,0,none⟩)∧e 4=.pointer (some ⟨b4,0,none⟩))∧h=⟨G',[.row u 103 5 rs.length zc,.blk b4 [.int .i64 a],.blk b3 [.bool ok],.reg 2 [.int .i64 n0,.int .i64 (n0+n1),.int .i64 n2,.int .i64 n3,.int .i64 n4,.int .i64 n5,.int .i64 n6,.bool tx,.int .i64 ct,u]],[]⟩) ?_ ?_
 ·intros;refine dT ?_;refine ej (fun e h=>∃ (k:Nat) (rs:List Rec) (a:Int) (ok:Bool) (u:Value) (zc:JU) (G':JT),(k≤many∧rs.length=k∧Gle G1 G'∧Cells RR 5 rs zc∧((ok=true∧s.2.2=0∧gH l n0 s.1 s.2.1.toNat k=some (rs,a.toNat)∧0≤a∧xy rs s.1=true)∨(ok=false∧eV 15 l=none))) ∧
   e 1=.pointer (some ⟨b1,0,none⟩)∧e 3=.pointer (some ⟨b3,0,none⟩)∧e 4=.pointer (some ⟨b4,0,none⟩)∧e 9=.int .i64 (many:Int)∧e 10=.int .i64 st∧e 11=.int .i64 k∧h.G=G'∧h.D=[]∧[.row u 103 5 rs.length zc,.blk b4 [.int .i64 a],.blk b3 [.bool ok],.reg 2 [.int .i64 n0,.int .i64 (n0+n1),.int .i64 n2,.int .i64 n3,.int .i64 n4,.int .i64 n5,.int .i64 n6,.bool tx,.int .i64 ct,u]].Sublist h.L) (fun e h=>many - iv (e 11)) ?_ ?_
  ·refine⟨0,[],_,_,_,[],G1,⟨Nat.zero_le _,rfl,.refl _,.nil,?_⟩,eE,eE,eE,eE,eE,eE,rfl,rfl,List.Sublist.refl _⟩;by_cases h:s.2.2=0
   ·rw[if_pos h,if_pos h];exact .inl ⟨rfl,h,rfl,hsn,rfl⟩
   ·rw[if_neg h,if_neg h];exact .inr ⟨rfl,by rw[hb5,if_neg h]⟩
  ·rintro e ⟨G',L,D⟩ ⟨k,rs,a,ok,u,zc,G2,⟨hk,hrl,hgg,hcs,hor⟩,e1,e3,e4,e9,e10,e11,hG,hD,hL⟩;dsimp only at hG hD hL;subst hG hD;refine dW (dY hL) ?_;refine dX [1,3,4,9,10,11] ?_;refine sJ6 @e1 @e3 @e4 @e9 @e10 @e11 ?_;intros;refine gR 107 112 c198r22.eq_1 ?_;refine gd (fun k1=>?_) (fun k1=>?_);rotate_left
   ·have k1:k=many:=by have:=Kc k1;omega
    subst k1;refine sI ?_;intros;refine gC ?_;refine eg ?_;refine sI ?_;exact eC ⟨rs,a,ok,u,zc,G',hor,⟨by omega,hgg,hcs⟩,⟨eE,eE,eE⟩,rfl⟩
   have k1:k < many:=by have:=Kb k1;omega
   refine sI ?_;refine⟨_,dZ (.tail _ (.tail _ (.head _))) rfl,?_⟩;refine sI ?_;intros;refine gC ?_;refine gb (fun k2=>?_) (fun k2=>?_);rotate_left
   ·rcases hor with⟨h,-⟩ | ⟨_,h⟩
    ·rw[h]at k2;cases k2
    refine eg ?_;refine sI ?_;exact eC ⟨rs,a,ok,u,zc,G',.inr ⟨k2,h⟩,⟨by omega,hgg,hcs⟩,⟨eE,eE,eE⟩,rfl⟩
   subst k2;rcases hor with⟨-,hs0,hrg,ha,hso⟩ | ⟨h,_⟩
   rotate_left
   ·cases h
   rw[if_pos hs0]at hst;subst hst;have hw:=eY k many k1 (by unfold maxLen;omega);obtain⟨pa,rfl⟩:∃ n:Nat,a=n:=⟨a.toNat,by omega⟩;rw[Int.toNat_natCast]at hrg;have hrec:=CM l pa n0 s.1 _ G' (SB.le hl1 hgg);have hrr:=vd l pa n0 s.1;have hnxt:gH l n0 s.1 s.2.1.toNat (k+1)=if (getR l pa n0 s.1).2.2=0 then some (rs++[(getR l pa n0 s.1).1],(getR l pa n0 s.1).2.1.toNat)else none:=by
    rw[gH,hrg];rfl
   have hnn:=uV l pa n0 s.1;generalize getR l pa n0 s.1=q at hrec hrr hnxt hnn;obtain⟨r,nx,er⟩:=q;dsimp only at hrr hnxt hrec hnn;have hrr0:=hrr.1;unfold gJ at hrec hrr;intros;refine gN ?_;intros;refine gR 115 125 c198r23.eq_1 ?_;refine⟨_,⟨_,rfl,.g (em hgg h1)⟩,?_⟩;refine sI ?_;refine⟨_,dZ (.tail _ (.head _)) rfl,?_⟩;refine sI ?_;refine(hrec _ _).mono ?_;rintro r h' ⟨rfl,rfl⟩;refine sI ?_
   intros;try refine dU ?_
   refine eK (fun e h=>(e 1=.pointer (some ⟨b1,0,none⟩)∧e 3=.pointer (some ⟨b3,0,none⟩)∧e 4=.pointer (some ⟨b4,0,none⟩))∧(e 9=.int .i64 (many:Int)∧e 10=.int .i64 s.1∧e 11=.int .i64 k∧e 13=.int .i64 nx)∧h=⟨G',[.reg 12 [.int .i64 r.off,.string r.key,.string r.val,.bool r.dead,.int .i64 r.stamp],.row u 103 5 rs.length zc,.blk b4 [.int .i64 (pa:Int)],.blk b3 [.bool (decide (er=0) && (decide (0 < k) || decide (r.stamp=s.1)))],.reg 2 [.int .i64 n0,.int .i64 (n0+n1),.int .i64 n2,.int .i64 n3,.int .i64 n4,.int .i64 n5,.int .i64 n6,.bool tx,.int .i64 ct,u]],[]⟩) ?_ ?_
   ·intros;refine gR 125 140 c198r24.eq_1 ?_;refine⟨_,dZ (.tail _ (.tail _ (.tail _ (.head _)))) rfl,?_⟩;refine sI ?_;refine gd (fun k2=>?_) (fun k2=>?_)
    ·have k3:=Kb k2;refine sI ?_;refine gd (fun k4=>?_) (fun k4=>?_)
     ·have k5:=Kb k4;refine sI ?_;refine ei [_,_,_] [_] rfl (by simp) ⟨rfl,rfl⟩ ?_;refine sI ?_;intros;refine dT ?_;refine eC ⟨⟨eE,eE,eE⟩,⟨eE,eE,eE,eE⟩,?_⟩;rw[decide_eq_true k3,decide_eq_true (show 0 < k by omega)];rfl
     ·have k5:=Kc k4;refine sI ?_;refine ei [_,_,_] [_] rfl (by simp) ⟨rfl,rfl⟩ ?_;refine sI ?_;intros;refine dT ?_;refine eC ⟨⟨eE,eE,eE⟩,⟨eE,eE,eE,eE⟩,?_⟩;rw[decide_eq_true k3,decide_eq_false (show ¬ 0 < k by omega)];rfl
    ·have k3:=Kc k2;refine sI ?_;refine ei [_,_,_] [_] rfl (by simp) ⟨rfl,rfl⟩ ?_;refine sI ?_;intros;refine dT ?_;refine eC ⟨⟨eE,eE,eE⟩,⟨eE,eE,eE,eE⟩,?_⟩;rw[decide_eq_false k3];rfl
   rintro e h ⟨⟨e1,e3,e4⟩,⟨e9,e10,e11,e13⟩,rfl⟩;refine dX [1,3,4,9,10,11,13] ?_;refine sJ7 @e1 @e3 @e4 @e9 @e10 @e11 @e13 ?_;have hok:∀ (j:Nat),j=k→((decide (er=0) && (decide (0 < k) || decide (r.stamp=s.1)))=true∧s.2.2=0∧gH l n0 s.1 s.2.1.toNat (k+1)=some (rs++[r],nx.toNat)∧0≤nx∧xy (rs++[r]) s.1=true)∨((decide (er=0) && (decide (0 < k) || decide (r.stamp=s.1)))=false∧eV 15 l=none):=fun j _=>by
    by_cases h0:er=0
    ·rw[if_pos h0]at hnxt;by_cases h1:0 < k
     ·refine .inl ⟨by simp[h0,h1],hs0,hnxt,hnn,?_⟩
      match rs,hrl,hso with
      | x :: xs,_,hso=>exact hso
      | [],hrl,_=>simp at hrl;omega
     ·have hk0:k=0:=by omega
      have hrs:rs=[]:=List.eq_nil_of_length_eq_zero (by omega);subst hrs;by_cases h2:r.stamp=s.1
      ·refine .inl ⟨by simp[h0,h2],hs0,hnxt,hnn,by simp[xy,h2]⟩
      ·refine .inr ⟨by simp[h0,h1,h2],?_⟩;rw[hb5,if_pos hs0];cases hrm:gH l n0 s.1 s.2.1.toNat many with
       | none=>rfl
       | some q =>
        simp only[Option.bind_some];have hpre:=uZ hrm (k+1) (by omega);rw[hnxt]at hpre;obtain⟨q2,hq,t,ht⟩:=hpre;cases hq;refine if_neg fun hc=>?_
        rw[ht]at hc;have:=hc.2;simp[xy,h2]at this
    ·rw[if_neg h0]at hnxt;refine .inr ⟨by simp[h0],?_⟩;have:=lU (many - (k+1)) (k+1) hnxt;rw[show k+1+(many - (k+1))=many by omega]at this;rw[hb5,if_pos hs0,this];rfl
   have hok:=hok k rfl;generalize (decide (er=0) && (decide (0 < k) || decide (r.stamp=s.1)))=ok at hok ⊢;intros;refine gR 140 141 c198r25.eq_1 ?_;refine ei [_,_] [_,_] rfl (by simp) ⟨rfl,rfl⟩ ?_;refine sI ?_;intros;refine gR 142 146 c198r26.eq_1 ?_;intro bk hbk;refine ts (L1:=[_]) (L2:=[_,_,_]) (E:=RR) (x:=r) rfl hrr rfl (by simp[Value.oneCell']) hcs (by omega) (by omega) fun A' c' zc' hzc=>?_
   refine sI ?_;intros;refine gR2 113 115 c198r27.eq_1 @hw ?_;intros;refine dT ?_;refine eC ⟨⟨k+1,rs++[r],nx,ok,_,zc',G',⟨by omega,by simp[hrl],hgg,hzc,hok⟩,eE,eE,eE,eE,eE,eE,rfl,rfl,.cons _ (.cons _ J9)⟩,?_⟩;refine sI ?_;omega
 rintro e h ⟨rs,a,ok,u,zc,G',hor,⟨hrl,hgg,hcs⟩,⟨e1,e3,e4⟩,rfl⟩;refine dX [1,3,4] ?_;refine sJ3 @e1 @e3 @e4 ?_;intros;refine eI (ef [] _ (by decide) hcs) ?_;rintro h' ⟨G2,rfl,hg2,B,d,rfl,hd1,hd2,hB⟩;refine dW (eL (.swap _ _ _)) ?_;have h12:=em (hgg.trans hg2) h1
 have hfin:∀ (t:Bool),(if t=true then eV 15 l=some ⟨n0,n0+n1,n2,n3,n4,n5,n6,tx,ct,rs⟩else eV 15 l=none)→mq 15 l G2 (.tuple #[.agg #[.int .i64 n0,.int .i64 (n0+n1),.int .i64 n2,.int .i64 n3,.int .i64 n4,.int .i64 n5,.int .i64 n6,.bool tx,.int .i64 ct,.slice B rs.length d],.bool t]):=fun t ht =>
  ⟨⟨n0,n0+n1,n2,n3,n4,n5,n6,tx,ct,rs⟩,_,t,rfl,⟨B,d,rfl,⟨hd1,hd2,hB⟩,hi7.1,hi7.2.1,hi7.2.2.1,hi7.2.2.2.1,hi7.2.2.2.2.1,hi7.2.2.2.2.2.1,hi7.2.2.2.2.2.2,hcti⟩,ht⟩
 rcases hor with⟨rfl,hs0,hrg,ha,hso⟩ | ⟨rfl,hno⟩
 ·intros;refine dT ?_;refine pQ _ J9 (by decide) ?_;refine sJ c198r28.eq_1 ?_;refine⟨_,dZ (.head _) rfl,?_⟩;refine sI ?_;refine⟨_,dZ (.tail _ (.head _)) rfl,?_⟩;refine sI ?_;refine⟨_,⟨_,rfl,.g h12⟩,?_⟩;refine sI ?_;refine ei [] [_,_] rfl (by simp) ⟨rfl,rfl⟩ ?_;refine sI ?_;intros;refine dT ?_
  refine ea (je (out:=[.agg #[.int .i64 n0,.int .i64 (n0+n1),.int .i64 n2,.int .i64 n3,.int .i64 n4,.int .i64 n5,.int .i64 n6,.bool tx,.int .i64 ct,.slice B rs.length d],.bool (decide (a=(l.length:Int)))]) ?_ ?_)
  ·simp[o198,mr,Kx.getR,getB,uJ,ldC,Env.set]
  ·refine hfin _ ?_;rw[hb5,if_pos hs0,hrg];simp only[Option.bind_some];by_cases h:a=(l.length:Int)
   ·rw[if_pos (decide_eq_true h),if_pos ⟨by omega,hso⟩,hmk]
   ·rw[if_neg (by simpa using h),if_neg (fun hc=>h (by omega))]
 ·intros;refine dT ?_;refine pQ _ J9 (by decide) ?_;refine sJ c198r28.eq_1 ?_;refine⟨_,dZ (.head _) rfl,?_⟩;refine sI ?_;refine ei [] [_,_] rfl (by simp) ⟨rfl,rfl⟩ ?_;refine sI ?_;intros;refine dT ?_;refine ea (je (out:=[.agg #[.int .i64 n0,.int .i64 (n0+n1),.int .i64 n2,.int .i64 n3,.int .i64 n4,.int .i64 n5,.int .i64 n6,.bool tx,.int .i64 ct,.slice B rs.length d],.bool false]) ?_ ?_)
  ·simp[o198,mr,Kx.getR,getB,uJ,ldC,Env.set]
  ·exact hfin false hno
theorem F209:Fun Tryz.prog 209 171 v209 c209 o209:=Fun.mkA Tryz.func209 Tryz.ntmps209
theorem Dn{l:J3}{p:Nat}(h:l[p]?=none):ig l (p:Int) 1=(0,10):=by
 have:=List.getElem?_eq_none_iff.1 h;rw[jN,if_pos (by simp;omega)]
theorem Ce{l:J3}{p:Nat}{m:UInt8}(h:l[p]?=some m):ig l (p:Int) 1=(m.toNat,0):=by
 have h2:=List.getElem?_eq_some_iff.1 h;have h3:=h2.1;rw[jN,if_neg (by simp;omega),List.drop_eq_getElem_cons h2.1,h2.2];simp[kH]
set_option maxHeartbeats 2000000 in
theorem CT(l:J3)(v:Value)(G:JT)(hl:SB G v l)(hb:l.length≤1000000):FnD Tryz.prog 209 #[v] G (mq 16 l):=by
 refine F209.fnD (by simp) (d7 ?_);have hl00:=hl;obtain⟨A,c,rfl,hc,hm,hA⟩:=hl;unfold c209;intros;refine gR 0 0 c209r0.eq_1 ?_;intros;refine gR 0 0 c209r1.eq_1 ?_;intros;refine gR 0 0 c209r2.eq_1 ?_;intros;refine gR 21 22 c209r3.eq_1 ?_;intro b6 hb6;refine sI ?_;refine ei [] [_,_] rfl (by simp) ⟨rfl,rfl⟩ ?_;refine sI ?_;intros;refine gR 0 0 c209r4.eq_1 ?_;intros
 refine eK (fun e h=>∃ (ns:J6) (p:Nat),(ns.length=7∧(∀ z∈ns,I64 z)∧mw l 7=some (ns,p)) ∧
  (e 0=.slice A l.length c∧e 5=.int .i64 (p:Int)∧e 6=.pointer (some ⟨b6,0,none⟩))∧h=⟨G,[.blk b6 (pj ns),.reg 4 [.int .i64 0,.int .i64 0,.int .i64 0,.int .i64 0,.int .i64 0,.int .i64 0,.int .i64 0,.bool false,.int .i64 0,.slice none 0 0],.reg 2 [.int .i64 0,.int .i64 0,.int .i64 0,.int .i64 0,.int .i64 0,.int .i64 0,.int .i64 0,.bool false,.int .i64 0,.slice none 0 0]],[]⟩) ?_ ?_
 ·intros;refine dT ?_;refine ej (fun e h=>∃ (k:Nat) (zs:J6) (p:Nat),(k≤7∧zs.length=7∧(∀ z∈zs,I64 z)∧mw l k=some (zs.take k,p))∧e 22=.int .i64 k ∧
   e 0=.slice A l.length c∧e 5=.int .i64 (p:Int)∧e 6=.pointer (some ⟨b6,0,none⟩)∧h=⟨G,[.blk b6 (pj zs),.reg 4 [.int .i64 0,.int .i64 0,.int .i64 0,.int .i64 0,.int .i64 0,.int .i64 0,.int .i64 0,.bool false,.int .i64 0,.slice none 0 0],.reg 2 [.int .i64 0,.int .i64 0,.int .i64 0,.int .i64 0,.int .i64 0,.int .i64 0,.int .i64 0,.bool false,.int .i64 0,.slice none 0 0]],[]⟩) (fun e h=>7 - iv (e 22)) ?_ ?_
  ·exact⟨0,[0,0,0,0,0,0,0],0,⟨Nat.zero_le _,rfl,by decide,rfl⟩,eE,eE,eE,eE,rfl⟩
  ·rintro e h ⟨k,zs,p,⟨hk,hzl,hzi,hn⟩,e22,e0,e5,e6,rfl⟩;refine dX [0,5,6,22] ?_;refine sJ4 @e0 @e5 @e6 @e22 ?_;intros;refine gR 0 0 c209r5.eq_1 ?_;intros;refine gC ?_;refine gb (fun ht=>?_) (fun ht=>?_)
   ·have hk7:k < 7:=by have:=Kb ht;omega
    have hw:=eY k 7 hk7 (by unfold maxLen;omega);have hgv:=iC l p _ G hl00;have hnx:mw l (k+1)=if (fC l p).2.2=0 then some (zs.take k++[(fC l p).1],(fC l p).2.1.toNat)else none:=by
     rw[mw,hn];rfl
    have hi:=@jM l p;have hnn:=kt l p;generalize fC l p=q at hgv hnx hi hnn;obtain⟨x,nx,er⟩:=q;dsimp only at hgv hnx hnn;intros;refine gN ?_;intros;refine gR 24 25 c209r6.eq_1 ?_;intros;refine gR 25 32 c209r7.eq_1 ?_;refine fK (hgv _ _) ?_;intros;refine gR 32 33 c209r8.eq_1 ?_;intros;refine gC ?_;refine gb (fun k1=>?_) (fun k1=>?_)
    ·have k1:=Kb k1;have hx:eV 16 l=none:=by
      rw[if_neg k1]at hnx;have:=mR (7 - (k+1)) (k+1) hnx;rw[show k+1+(7 - (k+1))=7 by omega]at this;rw[eV,this];rfl
     intros;refine gR 34 35 c209r9.eq_1 ?_;intros;refine rW ?_;exact⟨_,_,false,rfl,BE.zero,hx⟩
    have k1:er=0:=by simpa using k1
    rw[if_pos k1]at hnx;obtain⟨_,_,_,_,_,hxi⟩:=hi k1;obtain⟨nx,rfl⟩:∃ n:Nat,nx=n:=⟨nx.toNat,by omega⟩;rw[Int.toNat_natCast]at hnx;intros;refine gN ?_;intros;refine gR 35 38 c209r10.eq_1 ?_;refine⟨by omega,?_⟩;rw[show 0+k * 1=k by omega];refine ei [] [_,_] rfl (by simp[pj];omega) ⟨rfl,rfl⟩ ?_;simp only[List.nil_append];rw[om (by omega)];refine sI ?_;intros;refine gR 38 39 c209r11.eq_1 ?_
    intros;refine gR2 39 40 c209r12.eq_1 @hw ?_;intros;refine dT ?_;refine eC ⟨⟨k+1,zs.set k x,nx,⟨by omega,by simp[hzl],fun z hz=>?_,by rw[ta (by omega)];exact hnx⟩,eE,eE,eE,eE,rfl⟩,?_⟩
    ·rcases List.mem_or_eq_of_mem_set hz with h | h
     ·exact hzi z h
     ·rw[h];exact hxi
    ·refine sI ?_;omega
   ·have hk7:k=7:=by have:=Kc ht;omega
    subst hk7;rw[List.take_of_length_le (by omega)]at hn;refine eg ?_;refine sI ?_;exact eC ⟨zs,p,⟨hzl,hzi,hn⟩,⟨eE,eE,eE⟩,rfl⟩
 rintro e h ⟨ns,p,⟨hnl,hni,hnum⟩,⟨e0,e5,e6⟩,rfl⟩;refine dX [0,5,6] ?_;refine sJ3 @e0 @e5 @e6 ?_;obtain⟨n0,n1,n2,n3,n4,n5,n6,rfl⟩:∃ n0 n1 n2 n3 n4 n5 n6:Int,ns=[n0,n1,n2,n3,n4,n5,n6]:=by
  match ns,hnl with
  | [n0,n1,n2,n3,n4,n5,n6],_=>exact⟨n0,n1,n2,n3,n4,n5,n6,rfl⟩
 have hb2:eV 16 l=kn 16 l ([n0,n1,n2,n3,n4,n5,n6],p):=by rw[eV,hnum];rfl
 have hgn:=tb l p 1 (by omega) _ G hl00
 have hbad:∀ (fr:J0) (e:Env),eV 16 l=none→go none Tryz.prog 171 v209.1 v209.2 (fB o209 fun v h=>mq 16 l h.G v) (Td.s ((SC.reg false c209r15).seq .ret) :: fr) e ⟨G,[.blk b6 (pj [n0,n1,n2,n3,n4,n5,n6]),.reg 4 [.int .i64 0,.int .i64 0,.int .i64 0,.int .i64 0,.int .i64 0,.int .i64 0,.int .i64 0,.bool false,.int .i64 0,.slice none 0 0],.reg 2 [.int .i64 0,.int .i64 0,.int .i64 0,.int .i64 0,.int .i64 0,.int .i64 0,.int .i64 0,.bool false,.int .i64 0,.slice none 0 0]],[]⟩:=fun fr e hx=>by
  intros;refine gR 52 53 c209r15.eq_1 ?_;intros;refine rW ?_;exact⟨_,_,false,rfl,BE.zero,hx⟩
 have hbad2:∀ (fr:J0) (e:Env),eV 16 l=none→go none Tryz.prog 171 v209.1 v209.2 (fB o209 fun v h=>mq 16 l h.G v) (Td.s ((SC.reg false c209r18).seq .ret) :: fr) e ⟨G,[.blk b6 (pj [n0,n1,n2,n3,n4,n5,n6]),.reg 4 [.int .i64 0,.int .i64 0,.int .i64 0,.int .i64 0,.int .i64 0,.int .i64 0,.int .i64 0,.bool false,.int .i64 0,.slice none 0 0],.reg 2 [.int .i64 0,.int .i64 0,.int .i64 0,.int .i64 0,.int .i64 0,.int .i64 0,.int .i64 0,.bool false,.int .i64 0,.slice none 0 0]],[]⟩:=fun fr e hx=>by
  intros;refine gR 91 92 c209r18.eq_1 ?_;intros;refine rW ?_;exact⟨_,_,false,rfl,BE.zero,hx⟩
 cases hy:l[p]? with
 | none =>
  rw[Dn hy]at hgn;dsimp only at hgn;have hx:eV 16 l=none:=by rw[hb2,kn,hy];rfl
  intros;refine gR 40 46 c209r13.eq_1 ?_;refine fK (hgn _ _) ?_;intros;refine gR 46 51 c209r14.eq_1 ?_;refine gd (fun _=>?_) (fun h=>by simp at h);refine sI ?_;intros;refine gC ?_;exact hbad _ _ hx
 | some m =>
 rw[Ce hy]at hgn;dsimp only at hgn;have hpl:=(List.getElem?_eq_some_iff.1 hy).1;have hml:=m.toNat_lt;unfold maxLen at hm;have hb3:eV 16 l=if m.toNat < 8∧(0≤n0∧n0≤1099511627776)∧(0≤n1∧n1≤16)then kg l [n0,n1,n2,n3,n4,n5,n6] m (fC l ((p:Int)+1))else none:=by
  rw[hb2,kn,hy];rfl
 clear hb2;have wp:=eY p l.length hpl (by unfold maxLen;omega);intros;refine gR 40 46 c209r13.eq_1 ?_;refine fK (hgn _ _) ?_;intros;refine gR 46 51 c209r14.eq_1 ?_;refine gd (fun h=>by simp at h) (fun _=>?_);refine sI ?_;intros;refine gC ?_;refine gbD (fun k1=>?_) (fun k1=>?_)
 ·exact hbad _ _ (by rw[hb3,if_neg (fun h=>by omega)])
 clear hbad;have hgv:=iC l ((p:Int)+1) _ G hl00;have hi:=@jM l ((p:Int)+1);have hnn:=kt l ((p:Int)+1);generalize fC l ((p:Int)+1)=q at hgv hb3 hi hnn;obtain⟨x,nx,er⟩:=q;dsimp only at hgv hnn;intros;refine gN ?_;intros;refine gR2 53 61 c209r16.eq_1 @wp ?_;refine fK (hgv _ _) ?_;have hf:¬ ((0≤n0∧n0≤1099511627776)∧(0≤n1∧n1≤16)∧er=0∧0≤x∧x≤16)→eV 16 l=none:=fun h=>by
  rw[hb3];split
  ·rename_i hc;exact if_neg fun h2=>h ⟨hc.2.1,hc.2.2,h2⟩
  ·rfl
 intros;refine gR 61 90 c209r17.eq_1 ?_;refine gd (fun k2=>?_) (fun k2=>?_)
 ·have k2:=Kb k2;refine sI ?_;intros;refine gC ?_;exact hbad2 _ _ (hf fun h=>k2 h.2.2.1)
 have k2:er=0:=by simpa using k2
 refine sI ?_;refine gdD (fun k3=>?_) (fun k3=>?_)
 ·refine sI ?_;intros;refine gC ?_;exact hbad2 _ _ (hf fun h=>by omega)
 refine sI ?_;refine gdD (fun k4=>?_) (fun k4=>?_)
 ·refine sI ?_;intros;refine gC ?_;exact hbad2 _ _ (hf fun h=>by omega)
 refine sI ?_;refine⟨by omega,?_⟩;refine⟨_,dZ (o:=1) (.head _) rfl,?_⟩;refine sI ?_;refine gdD (fun k5=>?_) (fun k5=>?_)
 ·refine sI ?_;intros;refine gC ?_;exact hbad2 _ _ (hf fun h=>by omega)
 refine sI ?_;refine⟨by omega,?_⟩;refine⟨_,dZ (o:=1) (.head _) rfl,?_⟩;refine sI ?_;refine gdD (fun k6=>?_) (fun k6=>?_)
 ·refine sI ?_;intros;refine gC ?_;exact hbad2 _ _ (hf fun h=>by omega)
 refine sI ?_;refine⟨by omega,?_⟩;refine⟨_,dZ (o:=0) (.head _) rfl,?_⟩;refine sI ?_;refine gdD (fun k7=>?_) (fun k7=>?_)
 ·refine sI ?_;intros;refine gC ?_;exact hbad2 _ _ (hf fun h=>by omega)
 refine sI ?_;refine⟨by omega,?_⟩;refine⟨_,dZ (o:=0) (.head _) rfl,?_⟩;refine sI ?_;intros;refine gC ?_;refine gbD (fun k8=>?_) (fun k8=>?_)
 ·exact hbad2 _ _ (hf fun h=>by omega)
 clear hbad2 hf;obtain⟨many,rfl⟩:∃ n:Nat,x=n:=⟨x.toNat,by omega⟩;have hmany16:many≤16:=by omega
 obtain⟨pv,-,hv21,-,hpv,-⟩:=hi k2;obtain⟨p2,rfl⟩:∃ n:Nat,nx=n:=⟨nx.toNat,by omega⟩;have hb4:eV 16 l=kN l [n0,n1,n2,n3,n4,n5,n6] m many (if 0 < many then fC l p2 else(0,(p2:Int),0)):=by
  rw[hb3,if_pos ⟨by omega,by omega,by omega⟩,kg,if_pos ⟨k2,by omega,by omega⟩];simp only[Int.toNat_natCast];congr 1;by_cases h:0 < many
  ·rw[if_pos h,if_pos (by omega)]
  ·rw[if_neg h,if_neg (by omega)]
 clear hb3 hi hv21 hpv hgv hgn;have wl:IntKind.i64.wrap (n0+n1)=n0+n1:=by rw[eh] <;> omega
 have htx:decide ((4:Int)≤(m.toNat:Int))=decide (4≤m.toNat):=by
  by_cases h:4≤m.toNat
  ·rw[decide_eq_true h,decide_eq_true (by omega)]
  ·rw[decide_eq_false h,decide_eq_false (by omega)]
 have hct:IntKind.i64.wrap ((m.toNat % 4:Nat):Int)=((m.toNat % 4:Nat):Int):=by rw[eh] <;> omega
 have hrm:fl .rem (.int .u64 (m.toNat:Int)) (.int .u64 4)=some (.int .u64 ((m.toNat % 4:Nat):Int)):=lX .u64 m.toNat 4 (by decide);have hmk:∀ rs,mkB [n0,n1,n2,n3,n4,n5,n6] m rs=⟨n0,n0+n1,n2,n3,n4,n5,n6,decide (4≤m.toNat),((m.toNat % 4:Nat):Int),rs⟩:=fun _=>rfl
 have hcti:I64 ((m.toNat % 4:Nat):Int):=by unfold I64;omega
 generalize decide (4≤m.toNat)=tx at htx hmk;generalize ((m.toNat % 4:Nat):Int)=ct at hct hmk hcti hrm;have hi7:I64 n0∧I64 (n0+n1)∧I64 n2∧I64 n3∧I64 n4∧I64 n5∧I64 n6:=⟨hni _ (by simp),by unfold I64;omega,hni _ (by simp),hni _ (by simp),hni _ (by simp),hni _ (by simp),hni _ (by simp)⟩;intros;refine gN ?_;intros;refine gR 92 115 c209r19.eq_1 ?_;refine⟨by omega,?_⟩
 refine⟨_,dZ (o:=0) (.head _) rfl,?_⟩;refine sI ?_;refine⟨by omega,?_⟩;refine⟨_,dZ (o:=0) (.head _) rfl,?_⟩;refine sI ?_;refine⟨by omega,?_⟩;refine⟨_,dZ (o:=1) (.head _) rfl,?_⟩;refine sJ @wl ?_;refine⟨by omega,?_⟩;refine⟨_,dZ (o:=2) (.head _) rfl,?_⟩;refine sI ?_;refine⟨by omega,?_⟩;refine⟨_,dZ (o:=3) (.head _) rfl,?_⟩;refine sI ?_;refine⟨by omega,?_⟩;refine⟨_,dZ (o:=4) (.head _) rfl,?_⟩
 refine sI ?_;refine⟨by omega,?_⟩;refine⟨_,dZ (o:=5) (.head _) rfl,?_⟩;refine sI ?_;refine⟨by omega,?_⟩;refine⟨_,dZ (o:=6) (.head _) rfl,?_⟩
 (try simp -implicitDefEqProofs only[mz,mE,push_cast,Nat.reduceBEq,Nat.reduceAdd,Nat.reduceSub,Nat.reduceMul,Nat.reduceLT,Nat.reduceLeDiff,Nat.reduceEqDiff,reduceIte,Bool.not_true,Bool.not_false,true_and,and_true,Option.map_some,Option.bind_some,Int.toNat_natCast,htx,hrm,hct])
 intros;refine gR 0 0 c209r20.eq_1 ?_;have hzero:∀ (e:Env) (xs:JU),True:=fun _ _=>trivial
 have hout:∀ {rs:List Rec} {B:JY} {d:Nat} {G2:JT} (t:Bool),SlV G2 RR 5 (.slice B rs.length d) rs→(if t=true then eV 16 l=some ⟨n0,n0+n1,n2,n3,n4,n5,n6,tx,ct,rs⟩else eV 16 l=none)→mq 16 l G2 (.tuple #[.agg #[.int .i64 n0,.int .i64 (n0+n1),.int .i64 n2,.int .i64 n3,.int .i64 n4,.int .i64 n5,.int .i64 n6,.bool tx,.int .i64 ct,.slice B rs.length d],.bool t]):=fun {rs B d G2} t hB ht=>by
  obtain⟨B',d',he,hd1,hd2,hB⟩:=hB;cases he;exact⟨⟨n0,n0+n1,n2,n3,n4,n5,n6,tx,ct,rs⟩,_,t,rfl,⟨B,d,rfl,⟨hd1,hd2,hB⟩,hi7.1,hi7.2.1,hi7.2.2.1,hi7.2.2.2.1,hi7.2.2.2.2.1,hi7.2.2.2.2.2.1,hi7.2.2.2.2.2.2,hcti⟩,ht⟩
 intros;try refine dU ?_
 refine eK (fun e h=>∃ (s:Int × Int × Int) (p3:Nat),(s=(if 0 < many then fC l p2 else(0,(p2:Int),0))∧s.2.2=0∧s.2.1=p3)∧(e 0=.slice A l.length c∧e 5=.int .i64 (p3:Int)∧e 13=.int .i64 (many:Int)∧e 14=.int .i64 s.1) ∧
  h=⟨G,[.blk b6 (pj [n0,n1,n2,n3,n4,n5,n6]),.reg 4 [.int .i64 n0,.int .i64 (n0+n1),.int .i64 n2,.int .i64 n3,.int .i64 n4,.int .i64 n5,.int .i64 n6,.bool tx,.int .i64 ct,.slice none 0 0],.reg 2 [.int .i64 0,.int .i64 0,.int .i64 0,.int .i64 0,.int .i64 0,.int .i64 0,.int .i64 0,.bool false,.int .i64 0,.slice none 0 0]],[]⟩) ?_ ?_
 ·intros;refine gR 115 116 c209r21.eq_1 ?_;intros;refine gC ?_;refine gbD (fun k1=>?_) (fun k1=>?_)
  ·rw[if_pos (by omega)]at hb4;have hgv:=iC l p2 _ G hl00;have hnn:=kt l p2;obtain⟨s,hs⟩:∃ s,s=fC l p2:=⟨_,rfl⟩;rw[← hs]at hgv hb4 hnn;intros;refine gR 117 124 c209r22.eq_1 ?_;refine fK (hgv _ _) ?_;intros;refine gR 124 125 c209r23.eq_1 ?_;intros;refine gC ?_;refine gb (fun k9=>?_) (fun k9=>?_)
   ·have k9:=Kb k9;intros;refine gR 126 127 c209r24.eq_1 ?_;intros;refine rW ?_;exact hout (rs:=[]) false SlV.nil (by rw[hb4,kN,if_neg k9];rfl)
   have k9:s.2.2=0:=by simpa using k9
   obtain⟨p3,hp3⟩:∃ n:Nat,s.2.1=n:=⟨s.2.1.toNat,by omega⟩;intros;refine gN ?_;intros;refine gR 127 128 c209r25.eq_1 ?_;intros;refine gR 128 129 c209r26.eq_1 ?_;intros;refine dT ?_;exact eC ⟨s,p3,⟨by rw[if_pos (by omega),hs],k9,hp3⟩,⟨eE,(eJ @hp3),eE,eE⟩,rfl⟩
  ·intros;refine dT ?_;exact eC ⟨(0,(p2:Int),0),p2,⟨by rw[if_neg (by omega)],rfl,rfl⟩,⟨eE,eE,eE,eE⟩,rfl⟩
 rintro e h ⟨s,p3,⟨hs,hs0,hp3⟩,⟨e0,e5,e13,e14⟩,rfl⟩;rw[← hs]at hb4;have hb5:eV 16 l=(gH l n0 s.1 p3 many).bind fun r=>if r.2=l.length∧xy r.1 s.1=true then some (mkB [n0,n1,n2,n3,n4,n5,n6] m r.1)else none:=by
  rw[hb4,kN,if_pos hs0,hp3];rfl
 clear hb4 hs;refine dX [0,5,13,14] ?_;refine sJ4 @e0 @e5 @e13 @e14 ?_;intros;try refine dU ?_
 refine dW (dY (L':=[.reg 4 [.int .i64 n0,.int .i64 (n0+n1),.int .i64 n2,.int .i64 n3,.int .i64 n4,.int .i64 n5,.int .i64 n6,.bool tx,.int .i64 ct,.slice none 0 0],.reg 2 [.int .i64 0,.int .i64 0,.int .i64 0,.int .i64 0,.int .i64 0,.int .i64 0,.int .i64 0,.bool false,.int .i64 0,.slice none 0 0]]) (.cons _ J9)) ?_;refine dW (ew none 103 5) ?_
 refine eK (fun e h=>∃ (rs:List Rec) (p:Nat) (u:Value) (zc:JU) (G':JT),(gH l n0 s.1 p3 many=some (rs,p)∧rs.length=many∧Gle G G'∧Cells RR 5 rs zc)∧(e 0=.slice A l.length c∧e 5=.int .i64 (p:Int)∧e 13=.int .i64 (many:Int)∧e 14=.int .i64 s.1) ∧
  h=⟨G',[.row u 103 5 rs.length zc,.reg 4 [.int .i64 n0,.int .i64 (n0+n1),.int .i64 n2,.int .i64 n3,.int .i64 n4,.int .i64 n5,.int .i64 n6,.bool tx,.int .i64 ct,u],.reg 2 [.int .i64 0,.int .i64 0,.int .i64 0,.int .i64 0,.int .i64 0,.int .i64 0,.int .i64 0,.bool false,.int .i64 0,.slice none 0 0]],[]⟩) ?_ ?_
 ·intros;refine gR 0 0 c209r27.eq_1 ?_;intros;refine dT ?_;refine ej (fun e h=>∃ (k:Nat) (rs:List Rec) (p:Nat) (u:Value) (zc:JU) (G':JT),(k≤many∧rs.length=k∧Gle G G'∧Cells RR 5 rs zc∧gH l n0 s.1 p3 k=some (rs,p)) ∧
   e 0=.slice A l.length c∧e 5=.int .i64 (p:Int)∧e 13=.int .i64 (many:Int)∧e 14=.int .i64 s.1∧e 129=.int .i64 (many:Int)∧e 130=.int .i64 k∧h.G=G'∧h.D=[]∧[.row u 103 5 rs.length zc,.reg 4 [.int .i64 n0,.int .i64 (n0+n1),.int .i64 n2,.int .i64 n3,.int .i64 n4,.int .i64 n5,.int .i64 n6,.bool tx,.int .i64 ct,u],.reg 2 [.int .i64 0,.int .i64 0,.int .i64 0,.int .i64 0,.int .i64 0,.int .i64 0,.int .i64 0,.bool false,.int .i64 0,.slice none 0 0]].Sublist h.L) (fun e h=>many - iv (e 130)) ?_ ?_
  ·exact⟨0,[],p3,_,[],G,⟨Nat.zero_le _,rfl,.refl _,.nil,rfl⟩,eE,eE,eE,eE,eE,eE,rfl,rfl,List.Sublist.refl _⟩
  ·rintro e ⟨G',L,D⟩ ⟨k,rs,p,u,zc,G2,⟨hk,hrl,hgg,hcs,hrg⟩,e0,e5,e13,e14,e129,e130,hG,hD,hL⟩;dsimp only at hG hD hL;subst hG hD;refine dW (dY hL) ?_;refine dX [0,5,13,14,129,130] ?_;refine sJ6 @e0 @e5 @e13 @e14 @e129 @e130 ?_;intros;refine gR 0 0 c209r28.eq_1 ?_;intros;refine gC ?_;refine gb (fun k1=>?_) (fun k1=>?_);rotate_left
   ·have k1:k=many:=by have:=Kc k1;omega
    subst k1;refine eg ?_;refine sI ?_;exact eC ⟨rs,p,u,zc,G',⟨hrg,hrl,hgg,hcs⟩,⟨eE,eE,eE,eE⟩,rfl⟩
   have k1:k < many:=by have:=Kb k1;omega
   have hw:=eY k many k1 (by unfold maxLen;omega);have hrec:=Aw l p n0 s.1 _ G' (SB.le hl00 hgg);have hrr:=vd l p n0 s.1;have hnxt:gH l n0 s.1 p3 (k+1)=if (getR l p n0 s.1).2.2=0 then some (rs++[(getR l p n0 s.1).1],(getR l p n0 s.1).2.1.toNat)else none:=by
    rw[gH,hrg];rfl
   have hnn:=uV l p n0 s.1;generalize getR l p n0 s.1=q at hrec hrr hnxt hnn;obtain⟨r,nx,er⟩:=q;dsimp only at hrr hnxt hrec hnn;unfold gJ at hrec hrr;intros;refine gN ?_;intros;refine gR 132 142 c209r29.eq_1 ?_;refine(hrec _ _).mono ?_;rintro v h' ⟨rfl,rfl⟩;refine sI ?_;intros;refine gR 142 143 c209r30.eq_1 ?_;intros;refine gC ?_;refine gb (fun k2=>?_) (fun k2=>?_)
   ·have k2:=Kb k2;rw[if_neg k2]at hnxt;have:=lU (many - (k+1)) (k+1) hnxt;rw[show k+1+(many - (k+1))=many by omega]at this;refine eI (ef [_] _ (by decide) hcs) ?_;rintro h' ⟨G2,rfl,hg2,hB⟩;obtain⟨B,d,rfl,-⟩:=id hB;intros;refine gR 144 145 c209r31.eq_1 ?_;intros;refine rW ?_;exact hout false hB (by rw[hb5,this];rfl)
   have k2:er=0:=by simpa using k2
   rw[if_pos k2]at hnxt;obtain⟨nx,rfl⟩:∃ n:Nat,nx=n:=⟨nx.toNat,by omega⟩;rw[Int.toNat_natCast]at hnxt;intros;refine gN ?_;intros;refine gR 146 150 c209r32.eq_1 ?_;intro bk hbk;refine ts (L1:=[_]) (L2:=[_,_]) (E:=RR) (x:=r) rfl hrr rfl (by simp[Value.oneCell']) hcs (by omega) (by omega) fun A' c' zc' hzc=>?_
   refine sI ?_;intros;refine gR 151 152 c209r33.eq_1 ?_;intros;refine gR2 152 153 c209r34.eq_1 @hw ?_;intros;refine dT ?_;refine eC ⟨⟨k+1,rs++[r],nx,_,zc',G',⟨by omega,by simp[hrl],hgg,hzc,hnxt⟩,eE,eE,eE,eE,eE,eE,rfl,rfl,.cons _ (.cons _ J9)⟩,?_⟩;refine sI ?_;omega
 rintro e h ⟨rs,p,u,zc,G',⟨hrg,hrl,hgg,hcs⟩,⟨e0,e5,e13,e14⟩,rfl⟩;refine dX [0,5,13,14] ?_;refine sJ4 @e0 @e5 @e13 @e14 ?_;intros;refine eI (ef [] _ (by decide) hcs) ?_;rintro h' ⟨G2,rfl,hg2,hB0⟩;obtain⟨B,d,rfl,hd1,hd2,hB⟩:=id hB0;rw[hrg]at hb5;simp only[Option.bind_some,hmk]at hb5;intros;refine dT ?_;refine pQ _ (.cons_cons _ (.cons _ J9)) (by decide) ?_;refine sJ c209r35.eq_1 ?_
 refine gw (fun k1=>?_) (fun k1=>?_);rotate_left
 ·have k1:=Kc k1;refine sI ?_;refine⟨ed Kd (.cons_cons _ (.cons _ J9)),?_⟩;refine sI ?_;intros;refine rW ?_;exact hout false hB0 (show eV 16 l=none by rw[hb5,if_neg (fun h=>by omega)])
 have k1:=Kb k1;refine sI ?_;refine gw (fun k2=>?_) (fun k2=>?_)
 ·have k2:=Kb k2;have hrs:rs=[]:=List.eq_nil_of_length_eq_zero (by omega);subst hrs;refine sI ?_;refine⟨ed Kd (.cons_cons _ (.cons _ J9)),?_⟩;refine sI ?_;intros;refine rW ?_;exact hout true hB0 (show eV 16 l=some _ by rw[hb5,if_pos ⟨by omega,rfl⟩])
 have k2:=Kc k2;obtain⟨r0,h0⟩:∃ r,rs[0]?=some r:=⟨rs[0]'(by omega),getElem?_eq_getElem _⟩;have hso:xy rs s.1=decide (r0.stamp=s.1):=by
  match rs,h0 with
  | x :: xs,h0=>cases h0;rfl
 refine sI ?_;refine hB.y_lf h0 rfl rfl (fun cs h=>by rw[h.1];rfl) fun a ha=>?_
 refine sI ?_;refine⟨ed Kd (.cons_cons _ (.cons _ J9)),?_⟩;refine sI ?_;intros;refine rW ?_;refine hout _ hB0 ?_;by_cases h:r0.stamp=s.1
 ·rw[if_pos (decide_eq_true h),hb5,if_pos ⟨by omega,by rw[hso,decide_eq_true h]⟩]
 ·rw[if_neg (by simpa using h),hb5,if_neg (fun hc=>by rw[hso]at hc;simp[h]at hc)]
theorem F178:Fun Tryz.prog 178 68 v178 c178 o178:=Fun.mkA Tryz.func178 Tryz.ntmps178
theorem F195:Fun Tryz.prog 195 68 v195 c195 o195:=Fun.mkA Tryz.func195 Tryz.ntmps195
def jo:Batch:=⟨0,0,0,0,0,0,0,false,0,[]⟩
def rn(w:Int)(l:J3):Option Batch:=(eV w l).bind fun x=>if fF x=0 then some x else none
def getB(l:J3)(a:Int):Batch × Int × Int :=
 if (ig l a 4).2=0 then
  if 5≤(ig l a 4).1∧(ig l a 4).1≤2044 then
   if (ig l a 4).1≤(l.drop (a.toNat+4)).length then
    if (gX ((l.drop (a.toNat+4)).take (ig l a 4).1)).2=0 then
     match rn 15 (gX ((l.drop (a.toNat+4)).take (ig l a 4).1)).1 with
     | none=>(jo,0,11)
     | some x=>(x,((a.toNat+4+(ig l a 4).1:Nat):Int),0)
    else(jo,0,(gX ((l.drop (a.toNat+4)).take (ig l a 4).1)).2)
   else(jo,0,10)
  else(jo,0,11)
 else(jo,0,(ig l a 4).2)
def qQ(l:J3)(a:Int)(G:JT)(r:Value):Prop:=∃ cs,r=.tuple #[.agg cs.toArray,.int .i64 (getB l a).2.1,.int .i64 (getB l a).2.2]∧BE G (getB l a).1 cs
theorem r8{l:J3}{a:Int}{k:Nat}(h:(ig l a k).2=0):0≤a∧a.toNat+k≤l.length∨(k=0):=by
 unfold ig at h;split at h
 ·cases h
 ·split at h
  ·cases h
  ·rename_i h1 h2;by_cases hk:k=0
   ·exact .inr hk
   ·left;simp at h2;omega
theorem wE{l:J3}{a:Int}:(ig l a 4).1 < 4294967296:=by
 unfold ig;split
 ·decide
 ·split
  ·decide
  ·have:=xg ((l.drop a.toNat).take 4);have h2:256 ^ ((l.drop a.toNat).take 4).length≤256 ^ 4:=Nat.pow_le_pow_right (by decide) (by simp;omega);omega
theorem qy(l:J3):(gX l).1.length≤l.length:=by
 unfold gX;split
 ·simp
 ·split
  ·simp
  ·simp
theorem vy{x:Batch}(h:¬ x.last - x.base < 16):fF x≠0:=by
 rw[vl fun hf=>h hf.2.2.1.2.1];decide
theorem uk{l:J3}{ns:J6}{m:UInt8}(h:∀ rs,fF (mkB ns m rs)≠0)(many:Nat)(s:Int × Int × Int):((kN l ns m many s).bind fun x=>if fF x=0 then some x else none)=none:=by
 unfold kN;split
 ·cases gH l (ns.getD 0 0) s.1 s.2.1.toNat many with
  | none=>rfl
  | some r =>
   simp only[Option.bind_some];split
   ·simp only[Option.bind_some];exact if_neg (h _)
   ·rfl
 ·rfl
theorem tR{l:J3}{ns:J6}{m:UInt8}(h:∀ rs,fF (mkB ns m rs)≠0)(v:Int × Int × Int):((kg l ns m v).bind fun x=>if fF x=0 then some x else none)=none:=by
 unfold kg;split
 ·exact uk h _ _
 ·rfl
theorem BV(l:J3):rn 16 l=rn 15 l:=by
 unfold rn eV;cases mw l 7 with
 | none=>rfl
 | some q =>
  simp only[Option.bind_some];unfold kn;cases l[q.2]? with
  | none=>rfl
  | some m =>
   simp only[Option.bind_some];by_cases h15:m.toNat < 8∧(0≤q.1.getD 0 0∧q.1.getD 0 0≤1099511627776)∧(0≤q.1.getD 1 0∧q.1.getD 1 0≤15)
   ·rw[if_pos h15,if_pos ⟨h15.1,h15.2.1,by omega,by omega⟩]
   ·rw[if_neg h15];by_cases h16:m.toNat < 8∧(0≤q.1.getD 0 0∧q.1.getD 0 0≤1099511627776)∧(0≤q.1.getD 1 0∧q.1.getD 1 0≤16)
    ·rw[if_pos h16];have hs:q.1.getD 1 0=16:=by
      rcases Int.lt_or_le (q.1.getD 1 0) 16 with h | h
      ·exact absurd ⟨h16.1,h16.2.1,h16.2.2.1,by omega⟩ h15
      ·omega
     have key:∀ rs,fF (mkB q.1 m rs)≠0:=fun rs=>vy (by
      show ¬ q.1.getD 0 0+q.1.getD 1 0 - q.1.getD 0 0 < 16
      omega)
     exact tR key _
    ·rw[if_neg h16]
theorem nc{w:Int}{l:J3}{x:Batch}(h:eV w l=some x)(h0:fF x=0):rn w l=some x:=by rw[rn,h];exact if_pos h0
theorem tK{w:Int}{l:J3}{x:Batch}(h:eV w l=some x)(h0:¬ fF x=0):rn w l=none:=by rw[rn,h];exact if_neg h0
theorem ql{w:Int}{l:J3}(h:eV w l=none):rn w l=none:=by rw[rn,h];rfl
set_option maxHeartbeats 2000000 in
theorem Bv(l:J3)(a:Int)(v:Value)(G:JT)(hl:SB G v l)(hb:l.length≤1000000):FnD Tryz.prog 178 #[v,.int .i64 a] G (qQ l a):=by
 have hl0:=hl;obtain⟨A,c,rfl,hc,hm,hA⟩:=hl;unfold maxLen at hm;refine F178.fnD (by simp) (d7 ?_);unfold c178;have hng:=vR l a 4 (by omega) _ G hl0;have hnk:=@r8 l a 4;have hnl:=@wE l a;intros;refine gR 0 0 c178r0.eq_1 ?_;intros;refine gR 11 17 c178r1.eq_1 ?_;refine fK (hng _ _) ?_;intros;refine gR 17 18 c178r2.eq_1 ?_;intros;refine gC ?_;refine gb (fun k1=>?_) (fun k1=>?_)
 ·have k1:=Kb k1;intros;refine gR 19 21 c178r3.eq_1 ?_;intros;refine rW ?_;have hg:getB l a=(jo,0,(ig l a 4).2):=by rw[getB,if_neg k1]
  exact⟨_,by rw[hg],by rw[hg];exact BE.zero⟩
 have k1:(ig l a 4).2=0:=by simpa using k1
 obtain⟨ha,hal⟩:=(hnk k1).resolve_right (by decide);obtain⟨a,rfl⟩:∃ n:Nat,a=n:=⟨a.toNat,by omega⟩;rw[Int.toNat_natCast]at hal;have hg:getB l (a:Int)=if 5≤(ig l a 4).1∧(ig l a 4).1≤2044 then
   if (ig l a 4).1≤(l.drop (a+4)).length then
    if (gX ((l.drop (a+4)).take (ig l a 4).1)).2=0 then
     match rn 15 (gX ((l.drop (a+4)).take (ig l a 4).1)).1 with
     | none=>(jo,(0:Int),(11:Int))
     | some x=>(x,((a+4+(ig l a 4).1:Nat):Int),(0:Int))
    else(jo,(0:Int),(gX ((l.drop (a+4)).take (ig l a 4).1)).2)
   else(jo,(0:Int),(10:Int))
  else(jo,(0:Int),(11:Int)):=by rw[getB,if_pos k1];rfl
 generalize (ig l a 4).1=n at hg hnl;have hbad:¬ (5≤n∧n≤2044)→∀ (fr:J0) (e:Env),go none Tryz.prog 68 v178.1 v178.2 (fB o178 fun v h=>qQ l a h.G v) (Td.s ((SC.reg false c178r5).seq .ret) :: fr) e ⟨G,[.reg 4 [.int .i64 0,.int .i64 0,.int .i64 0,.int .i64 0,.int .i64 0,.int .i64 0,.int .i64 0,.bool false,.int .i64 0,.slice none 0 0]],[]⟩:=fun hx fr e=>by
  rw[if_neg hx]at hg;intros;refine gR 27 28 c178r5.eq_1 ?_;intros;refine rW ?_;exact⟨_,by rw[hg],by rw[hg];exact BE.zero⟩
 intros;refine gN ?_;intros;refine gR 21 26 c178r4.eq_1 ?_;refine gdD (fun k2=>?_) (fun k2=>?_)
 ·refine sI ?_;intros;refine gC ?_;exact hbad (by omega) _ _
 refine sI ?_;intros;refine gC ?_;refine gbD (fun k3=>?_) (fun k3=>?_)
 ·exact hbad (by omega) _ _
 clear hbad;rw[if_pos ⟨by omega,by omega⟩]at hg;have w4:IntKind.i64.wrap ((a:Int)+4)=((a+4:Nat):Int):=by rw[eh] <;> omega
 intros;refine gN ?_;intros;refine gR2 28 32 c178r6.eq_1 @w4 ?_;refine uz (a+4) l.length c hl0 rfl rfl rfl (by omega) fun B hB=>?_
 rw[take_length]at hB ⊢;have hrl:(l.drop (a+4)).length=l.length - (a+4):=by simp
 generalize l.drop (a+4)=rest at hB hg hrl ⊢;refine sI ?_;have hcv:IntKind.u64.wrap (rest.length:Int)=(rest.length:Int):=lq (by omega);intros;refine gR2 32 36 c178r7.eq_1 @hcv ?_;intros;refine gC ?_;refine gbD (fun k4=>?_) (fun k4=>?_)
 ·rw[if_neg (by omega)]at hg;intros;refine gR 37 38 c178r8.eq_1 ?_;intros;refine rW ?_;exact⟨_,by rw[hg],by rw[hg];exact BE.zero⟩
 rw[if_pos (by omega)]at hg;have hpre:=SlV.pre n hB (by omega);have hop:=Dr (rest.take n) _ G hpre (by simp;omega);have hol:=qy (rest.take n);have hrn:(rest.take n).length≤2044:=by simp;omega
 generalize gX (rest.take n)=o at hop hg hol;intros;refine gN ?_;intros;refine gR 38 45 c178r9.eq_1 ?_;refine⟨by omega,?_⟩;refine(hop _ []).mono ?_;rintro r h' ⟨G1,L',rfl,hg1,u,rfl,ys,hys,rfl⟩;refine sI ?_;intros;try refine dU ?_
 refine eI (ef [] _ (by decide) hys) ?_;rintro h' ⟨G2,rfl,hg2,hv2⟩;intros;refine gR 45 46 c178r10.eq_1 ?_;intros;refine gC ?_;refine gb (fun k5=>?_) (fun k5=>?_)
 ·have k5:=Kb k5;rw[if_neg k5]at hg;intros;refine gR 47 49 c178r11.eq_1 ?_;intros;refine rW ?_;exact⟨_,by rw[hg],by rw[hg];exact BE.zero⟩
 have k5:o.2=0:=by simpa using k5
 rw[if_pos k5]at hg;intros;refine gN ?_;intros;refine gR 49 54 c178r12.eq_1 ?_;refine(Ak o.1 u G2 hv2 (by omega) _ []).mono ?_;rintro r h' ⟨G3,rfl,hg3,x,cs,ok,rfl,hbe,hpo⟩;have hck:=lF x cs G3 hbe;have hbe0:=hbe;obtain⟨B',d',rfl,-⟩:=hbe;unfold fo at hck;unfold fo;refine sI ?_
 have hbad:rn 15 o.1=none→∀ (fr:J0) (e:Env),go none Tryz.prog 68 v178.1 v178.2 (fB o178 fun v h=>qQ l a h.G v) (Td.s ((SC.reg false c178r14).seq .ret) :: fr) e ⟨G3,[.reg 4 (fo x (.slice B' x.recs.length d'))],[]⟩:=fun hx fr e=>by
  rw[hx]at hg;dsimp only at hg;unfold fo;intros;refine gR 61 62 c178r14.eq_1 ?_;intros;refine rW ?_;exact⟨_,by rw[hg],by rw[hg];exact BE.zero⟩
 unfold fo at hbad;intros;refine gR 54 60 c178r13.eq_1 ?_;refine gd (fun k6=>?_) (fun k6=>?_)
 ·have k6:ok=false:=by simpa using k6
  subst k6;refine sI ?_;intros;refine gC ?_;exact hbad (ql hpo) _ _
 have k6:ok=true:=by simpa using k6
 subst k6;refine sI ?_;refine fK (hck _ _) ?_;intros;refine gC ?_;refine gb (fun k7=>?_) (fun k7=>?_)
 ·have k7:=Kb k7;exact hbad (tK hpo k7) _ _
 have k7:fF x=0:=by simpa using k7
 clear hbad;rw[nc hpo k7]at hg;dsimp only at hg;have hcn:IntKind.i64.wrap (n:Int)=(n:Int):=by rw[eh] <;> omega
 have hw5:IntKind.i64.wrap (((a+4:Nat):Int)+n)=((a+4+n:Nat):Int):=by rw[eh] <;> omega
 generalize a+4+n=nx at hg hw5;generalize a+4=a4 at w4 hw5;intros;refine gN ?_;intros;refine gr 62 68 ?_;refine sJ4 c178r15.eq_1 @w4 @hcn @hw5 ?_;intros;refine rW ?_;exact⟨_,by rw[hg],by rw[hg];exact hbe0⟩
set_option maxHeartbeats 2000000 in
theorem zA(l:J3)(a:Int)(v:Value)(G:JT)(hl:SB G v l)(hb:l.length≤1000000):FnD Tryz.prog 195 #[v,.int .i64 a] G (qQ l a):=by
 have hl0:=hl;obtain⟨A,c,rfl,hc,hm,hA⟩:=hl;unfold maxLen at hm;refine F195.fnD (by simp) (d7 ?_);unfold c195;have hng:=tb l a 4 (by omega) _ G hl0;have hnk:=@r8 l a 4;have hnl:=@wE l a;intros;refine gR 0 0 c195r0.eq_1 ?_;intros;refine gR 13 19 c195r1.eq_1 ?_;refine fK (hng _ _) ?_;intros;refine gR 19 20 c195r2.eq_1 ?_;intros;refine gC ?_;refine gb (fun k1=>?_) (fun k1=>?_)
 ·have k1:=Kb k1;intros;refine gR 21 23 c195r3.eq_1 ?_;intros;refine rW ?_;have hg:getB l a=(jo,0,(ig l a 4).2):=by rw[getB,if_neg k1]
  exact⟨_,by rw[hg],by rw[hg];exact BE.zero⟩
 have k1:(ig l a 4).2=0:=by simpa using k1
 obtain⟨ha,hal⟩:=(hnk k1).resolve_right (by decide);obtain⟨a,rfl⟩:∃ n:Nat,a=n:=⟨a.toNat,by omega⟩;rw[Int.toNat_natCast]at hal;have hg:getB l (a:Int)=if 5≤(ig l a 4).1∧(ig l a 4).1≤2044 then
   if (ig l a 4).1≤(l.drop (a+4)).length then
    if (gX ((l.drop (a+4)).take (ig l a 4).1)).2=0 then
     match rn 15 (gX ((l.drop (a+4)).take (ig l a 4).1)).1 with
     | none=>(jo,(0:Int),(11:Int))
     | some x=>(x,((a+4+(ig l a 4).1:Nat):Int),(0:Int))
    else(jo,(0:Int),(gX ((l.drop (a+4)).take (ig l a 4).1)).2)
   else(jo,(0:Int),(10:Int))
  else(jo,(0:Int),(11:Int)):=by rw[getB,if_pos k1];rfl
 generalize (ig l a 4).1=n at hg hnl;have hbad:¬ (5≤n∧n≤2044)→∀ (fr:J0) (e:Env),go none Tryz.prog 68 v195.1 v195.2 (fB o195 fun v h=>qQ l a h.G v) (Td.s ((SC.reg false c195r5).seq .ret) :: fr) e ⟨G,[.reg 4 [.int .i64 0,.int .i64 0,.int .i64 0,.int .i64 0,.int .i64 0,.int .i64 0,.int .i64 0,.bool false,.int .i64 0,.slice none 0 0]],[]⟩:=fun hx fr e=>by
  rw[if_neg hx]at hg;intros;refine gR 29 30 c195r5.eq_1 ?_;intros;refine rW ?_;exact⟨_,by rw[hg],by rw[hg];exact BE.zero⟩
 intros;refine gN ?_;intros;refine gR 23 28 c195r4.eq_1 ?_;refine gdD (fun k2=>?_) (fun k2=>?_)
 ·refine sI ?_;intros;refine gC ?_;exact hbad (by omega) _ _
 refine sI ?_;intros;refine gC ?_;refine gbD (fun k3=>?_) (fun k3=>?_)
 ·exact hbad (by omega) _ _
 clear hbad;rw[if_pos ⟨by omega,by omega⟩]at hg;have w4:IntKind.i64.wrap ((a:Int)+4)=((a+4:Nat):Int):=by rw[eh] <;> omega
 have hcn:IntKind.i64.wrap (n:Int)=(n:Int):=by rw[eh] <;> omega
 have hw5:IntKind.i64.wrap (((a+4:Nat):Int)+n)=((a+4+n:Nat):Int):=by rw[eh] <;> omega
 obtain⟨a4,ha4⟩:∃ a4,a4=a+4:=⟨_,rfl⟩;rw[← ha4]at w4 hw5 hg hal;obtain⟨nx,hnx⟩:∃ nx,nx=a4+n:=⟨_,rfl⟩;rw[← hnx]at hw5 hg;intros;refine gN ?_;intros;refine gr 30 35 ?_;refine sJ4 c195r6.eq_1 @w4 @hcn @hw5 ?_;intros;refine gR 35 38 c195r7.eq_1 ?_;have hrl:(l.drop a4).length=l.length - a4:=by simp
 intros;refine gC ?_;refine gbD (fun k4=>?_) (fun k4=>?_)
 ·rw[if_neg (by omega)]at hg;intros;refine gR 39 40 c195r8.eq_1 ?_;intros;refine rW ?_;exact⟨_,by rw[hg],by rw[hg];exact BE.zero⟩
 rw[if_pos (by omega)]at hg;have hsub:(l.take nx).drop a4=(l.drop a4).take n:=by rw[List.drop_take,hnx,Nat.add_sub_cancel_left]
 intros;refine gN ?_;intros;refine gR2 40 49 c195r9.eq_1 @w4 ?_;refine uz a4 nx c hl0 rfl rfl rfl (by omega) fun B hB=>?_
 rw[hsub]at hB ⊢;have hrn:((l.drop a4).take n).length≤2044:=by simp;omega
 have hop:=yy ((l.drop a4).take n) _ G hB (by omega);have hol:=qy ((l.drop a4).take n);generalize gX ((l.drop a4).take n)=o at hop hg hol;refine sI ?_;refine(hop _ []).mono ?_;rintro r h' ⟨G1,L',rfl,hg1,u,rfl,ys,hys,rfl⟩;refine sI ?_;intros;try refine dU ?_
 refine eI (ef [] _ (by decide) hys) ?_;rintro h' ⟨G2,rfl,hg2,hv2⟩;intros;refine gR 49 50 c195r10.eq_1 ?_;intros;refine gC ?_;refine gb (fun k5=>?_) (fun k5=>?_)
 ·have k5:=Kb k5;rw[if_neg k5]at hg;intros;refine gR 51 53 c195r11.eq_1 ?_;intros;refine rW ?_;exact⟨_,by rw[hg],by rw[hg];exact BE.zero⟩
 have k5:o.2=0:=by simpa using k5
 rw[if_pos k5,← BV]at hg;intros;refine gN ?_;intros;refine gR 53 58 c195r12.eq_1 ?_;refine(CT o.1 u G2 hv2 (by omega) _ []).mono ?_;rintro r h' ⟨G3,rfl,hg3,x,cs,ok,rfl,hbe,hpo⟩;have hck:=uF x cs G3 hbe;have hbe0:=hbe;obtain⟨B',d',rfl,-⟩:=hbe;unfold fo at hck;unfold fo;refine sI ?_
 have hbad:rn 16 o.1=none→∀ (fr:J0) (e:Env),go none Tryz.prog 68 v195.1 v195.2 (fB o195 fun v h=>qQ l a h.G v) (Td.s ((SC.reg false c195r14).seq .ret) :: fr) e ⟨G3,[.reg 11 (fo x (.slice B' x.recs.length d')),.reg 4 [.int .i64 0,.int .i64 0,.int .i64 0,.int .i64 0,.int .i64 0,.int .i64 0,.int .i64 0,.bool false,.int .i64 0,.slice none 0 0]],[]⟩:=fun hx fr e=>by
  rw[hx]at hg;dsimp only at hg;unfold fo;intros;refine gR 65 66 c195r14.eq_1 ?_;intros;refine rW ?_;exact⟨_,by rw[hg],by rw[hg];exact BE.zero⟩
 unfold fo at hbad;intros;refine gR 58 64 c195r13.eq_1 ?_;refine gd (fun k6=>?_) (fun k6=>?_)
 ·have k6:ok=false:=by simpa using k6
  subst k6;refine sI ?_;intros;refine gC ?_;exact hbad (ql hpo) _ _
 have k6:ok=true:=by simpa using k6
 subst k6;refine sI ?_;refine fK (hck _ _) ?_;intros;refine gC ?_;refine gb (fun k7=>?_) (fun k7=>?_)
 ·have k7:=Kb k7;exact hbad (tK hpo k7) _ _
 have k7:fF x=0:=by simpa using k7
 clear hbad;rw[nc hpo k7]at hg;dsimp only at hg;intros;refine gN ?_;intros;refine gR 66 68 c195r15.eq_1 ?_;intros;refine rW ?_;exact⟨_,by rw[hg],by rw[hg];exact hbe0⟩
theorem tX{y:Nat}(h:y < 256):(UInt8.ofNat y).toNat=y:=by simp;omega
theorem EU(x:UInt8):UInt8.ofNat x.toNat=x:=by simp
theorem sX:∀ (f i z y:Nat) (q:J3),i+f=9→y < 2 * 128 ^ f→(0 < i→0 < y)→gvL i z (pB f y++q)=(0,z+128 ^ i * y,i+(pB f y).length)
 | 0,i,z,y,q,hi,hy,h0=>by
  have hx:(UInt8.ofNat y).toNat=y:=tX (by simp at hy;omega);simp at hy;simp only[pB,List.cons_append,List.nil_append];rw[l4 (by rw[hx];omega) (by rw[hx];omega),hx,Nat.mod_eq_of_lt (by omega)];rfl
 | f+1,i,z,y,q,hi,hy,h0=>by
  unfold pB;split
  ·rename_i hlt;have hx:(UInt8.ofNat y).toNat=y:=tX (by omega);simp only[List.cons_append,List.nil_append];rw[l4 (by rw[hx];omega) (by rw[hx];omega),hx,Nat.mod_eq_of_lt (by omega)];rfl
  ·rename_i hge;have hx:(UInt8.ofNat (128+y % 128)).toNat=128+y % 128:=tX (by omega);simp only[List.cons_append];rw[lC (by rw[hx];omega) (by rw[hx];omega),hx];rw[Nat.pow_succ]at hy;rw[sX f (i+1) _ (y / 128) q (by omega) (by omega) (by omega)];have e1:(128+y % 128) % 128=y % 128:=by omega
   have e2:128 ^ (i+1) * (y / 128)=128 ^ i * (128 * (y / 128)):=by rw[Nat.pow_succ,Nat.mul_assoc]
   rw[e1,e2,Nat.add_assoc,← Nat.mul_add,show y % 128+128 * (y / 128)=y by omega];simp;omega
theorem tv:∀ (m:J3) (i z:Nat),i≤9→(gvL i z m).1=0→∃ y rest,m=pB (9 - i) y++rest∧(gvL i z m).2.1=z+128 ^ i * y∧(gvL i z m).2.2=i+(pB (9 - i) y).length∧(0 < i→0 < y)∧y < 2 * 128 ^ (9 - i)
 | [],i,z,_,h=>by simp[gvL]at h
 | x :: xs,i,z,hi,h=>by
  have hxl:=x.toNat_lt;by_cases h1:(i=9∧1 < x.toNat)∨(0 < i∧x.toNat=0)
  ·rw[pd h1]at h;cases h
  ·by_cases h2:x.toNat < 128
   ·rw[l4 h1 h2];refine⟨x.toNat,xs,?_,by rw[Nat.mod_eq_of_lt h2],?_,by omega,?_⟩
    ·rw[rJ h2,EU];rfl
    ·rw[rJ h2];rfl
    ·by_cases h9:i=9
     ·subst h9;simp;omega
     ·have:128 ^ 1≤128 ^ (9 - i):=Nat.pow_le_pow_right (by decide) (by omega);omega
   ·have hi8:i≤8:=by omega
    rw[lC h1 h2]at h ⊢;obtain⟨y,rest,e1,e2,e3,e4,e5⟩:=tv xs (i+1) _ (by omega) h;have hy:=e4 (by omega);refine⟨(x.toNat - 128)+128 * y,rest,?_,?_,?_,by omega,?_⟩
    ·rw[show 9 - i=9 - (i+1)+1 by omega,pB,if_neg (by omega),show 128+(x.toNat - 128+128 * y) % 128=x.toNat by omega,EU,show(x.toNat - 128+128 * y) / 128=y by omega,List.cons_append,← e1]
    ·rw[e2,Nat.pow_succ,Nat.add_assoc];congr 1;rw[show x.toNat % 128=x.toNat - 128 by omega,Nat.mul_assoc,← Nat.mul_add]
    ·rw[e3,show 9 - i=9 - (i+1)+1 by omega,pB,if_neg (by omega),show(x.toNat - 128+128 * y) / 128=y by omega,List.length_cons];omega
    ·rw[show 9 - i=9 - (i+1)+1 by omega,Nat.pow_succ];omega
theorem CI{n:Int}(h:I64 n):zag (zig n)=n:=by
 unfold zag zig I64 at *;split <;> split <;> omega
theorem wv(z:Nat):zig (zag z)=z:=by
 unfold zag zig;split <;> split <;> omega
theorem vK{l:J3}{a:Nat}:fC l (a:Int)=if (gvL 0 0 (l.drop a)).1=0 then(zag (gvL 0 0 (l.drop a)).2.1,(a:Int)+(gvL 0 0 (l.drop a)).2.2,0)else(0,0,(gvL 0 0 (l.drop a)).1):=by
 rw[fC,if_neg (by omega)];rfl
theorem ma{l:J3}{a:Nat}{n:Int}{q:J3}(hn:I64 n)(h:l.drop a=pvB n++q):fC l (a:Int)=(n,((a+(pvB n).length:Nat):Int),0):=by
 have hz:=qv hn;rw[vK,h,pvB,sX 9 0 0 (zig n) q rfl (by omega) (by omega)];simp only[if_true,Nat.zero_add,Nat.pow_zero,Nat.one_mul,CI hn];rfl
theorem jx{l:J3}{a:Nat}(h:(fC l (a:Int)).2.2=0):∃ q,l.drop a=pvB (fC l (a:Int)).1++q∧(fC l (a:Int)).2.1=((a+(pvB (fC l (a:Int)).1).length:Nat):Int)∧I64 (fC l (a:Int)).1:=by
 obtain⟨_,_,_,_,_,hi⟩:=jM h;rw[vK]at h hi ⊢;split at h
 ·rename_i h0;rw[if_pos h0]at hi ⊢;obtain⟨y,rest,e1,e2,e3,_,e5⟩:=tv _ 0 0 (by omega) h0;simp only[Nat.zero_add,Nat.pow_zero,Nat.one_mul,Nat.sub_zero]at e1 e2 e3;dsimp only at hi ⊢;rw[e2]at hi ⊢;refine⟨rest,?_,?_,hi⟩
  ·rw[pvB,wv];exact e1
  ·rw[pvB,wv,e3];rfl
 ·rename_i h0;exact absurd h h0
theorem wk(n:Int):0 < (pvB n).length:=(o7 9 _).2
theorem vm{l:J3}{a:Nat}{s:ByteArray}{q:J3}(hs:s.size≤64)(h:l.drop a=ptB s++q):ky l (a:Int) 64=(s,((a+(ptB s).length:Nat):Int),0):=by
 have hv:=ma (l:=l) (a:=a) (n:=s.size) (q:=s.data.toList++q) (by unfold I64;omega) (by rw[h,ptB,List.append_assoc]);have hd:l.drop (a+(pvB s.size).length)=s.data.toList++q:=by rw[← List.drop_drop,h,ptB,List.append_assoc,List.drop_left]
 have hl:s.data.toList.length=s.size:=rfl;have hlen:a+(pvB s.size).length+s.size≤l.length:=by
  have:=congrArg List.length hd;simp at this;have h2:=wk s.size;have h3:=congrArg List.length h;simp[ptB]at h3;omega
 rw[ky,hv];dsimp only;rw[if_pos rfl,if_neg (by omega),if_neg (by omega),if_neg (by omega)];simp only[Int.toNat_natCast];have e1:(l.take (a+(pvB s.size).length+s.size)).drop (a+(pvB s.size).length)=s.data.toList:=by
  rw[List.drop_take,Nat.add_sub_cancel_left,hd,List.take_left' hl]
 rw[e1];refine Prod.ext rfl (Prod.ext ?_ rfl);simp only[ptB,length_append,hl];omega
theorem qN{l:J3}{a:Nat}(h:(ky l (a:Int) 64).2.2=0):∃ q,l.drop a=ptB (ky l (a:Int) 64).1++q∧(ky l (a:Int) 64).2.1=((a+(ptB (ky l (a:Int) 64).1).length:Nat):Int)∧(ky l (a:Int) 64).1.size≤64:=by
 have hb:=@jx l a;have hk:=@jM l a;unfold ky at h ⊢;split at h
 ·rename_i h0;obtain⟨q,e1,e2,e3⟩:=hb h0;obtain⟨k,_,e4,_,e5,_⟩:=hk h0;rw[Int.toNat_natCast]at e4 e5;rw[if_pos h0];split at h
  ·cases h
  ·rename_i h1;split at h
   ·cases h
   ·rename_i h2;split at h
    ·cases h
    ·rename_i h3;rw[if_neg h1,if_neg h2,if_neg h3];generalize fC l (a:Int)=v at *;obtain⟨n,nx,er⟩:=v;dsimp only at *;obtain⟨n,rfl⟩:∃ m:Nat,n=m:=⟨n.toNat,by omega⟩;have hk2:k=(pvB n).length:=by omega
     subst hk2;subst e4;simp only[Int.toNat_natCast];have hd:l.drop (a+(pvB n).length)=q:=by rw[← List.drop_drop,e1,List.drop_left]
     have hql:n≤q.length:=by rw[← hd];simp;omega
     have e6:(l.take (a+(pvB n).length+n)).drop (a+(pvB n).length)=q.take n:=by rw[List.drop_take,Nat.add_sub_cancel_left,hd]
     rw[e6];have hsz:(ByteArray.mk (q.take n).toArray).size=n:=by
      show(q.take n).toArray.size=n;simp;omega
     refine⟨q.drop n,?_,?_,by rw[hsz];omega⟩
     ·rw[ptB,hsz,List.append_assoc,e1];simp
     ·rw[ptB,length_append,hsz];simp;omega
 ·rename_i h0;exact absurd h h0
theorem I0{l:J3}{a:Nat}{x:UInt8}{q:J3}(h:l.drop a=x :: q):l[a]?=some x:=by
 have:=List.getElem?_drop (xs:=l) (i:=a) (j:=0);rw[Nat.add_zero,h]at this;exact this.symm
theorem AM{l:J3}{a:Nat}{x:UInt8}(h:l[a]?=some x):l.drop a=x :: l.drop (a+1):=by
 have h2:=List.getElem?_eq_some_iff.1 h;rw[List.drop_eq_getElem_cons h2.1,h2.2]
theorem fz{l p q:J3}{a:Nat}(h:l.drop a=p++q):l.drop (a+p.length)=q:=by rw[← List.drop_drop,h,List.drop_left]
theorem ib{n:Int}:inO n=true↔0≤n∧n≤1099511627776:=by simp[inO]
theorem Bs{l:J3}{a:Nat}{r:Rec}{base stamp:Int}{q:J3}(hb:inO base=true)(hs:inO stamp=true)(hc:jW r=0)(h:l.drop a=prB r base stamp++q):getR l (a:Int) base stamp=(r,((a+(prB r base stamp).length:Nat):Int),0):=by
 obtain⟨⟨c1,c2⟩,c3,c4⟩:=fH hc;have hb':=ib.1 hb;have hs':=ib.1 hs;have c1':=ib.1 c1;have c2':=ib.1 c2;have h1:l.drop a=pvB (r.off - base)++(pvB (r.stamp - stamp)++((if r.dead=true then 1 else 0) :: (ptB r.key++(ptB r.val++q)))):=by rw[h,prB];simp
 have h2:=fz h1;have h3:=fz h2;have h4:l.drop (a+(pvB (r.off - base)).length+(pvB (r.stamp - stamp)).length+1)=ptB r.key++(ptB r.val++q):=by
  have:=fz (p:=[if r.dead=true then 1 else 0]) h3;exact this
 have h5:=fz h4;have v1:=ma (show I64 (r.off - base)by unfold I64;omega) h1;have v2:=ma (show I64 (r.stamp - stamp)by unfold I64;omega) h2;have v4:=vm c3 h4;have v5:=vm c4 h5;have v3:rb l (a+(pvB (r.off - base)).length+(pvB (r.stamp - stamp)).length)=(r.dead,((a+(pvB (r.off - base)).length+(pvB (r.stamp - stamp)).length+1:Nat):Int),0):=by
  rw[rb,I0 h3];cases r.dead <;> simp
 have e1:g1 l a=(r.off - base,((a+(pvB (r.off - base)).length:Nat):Int),0):=by rw[Db,v1]
 have e2:g2 l a=(r.stamp - stamp,((a+(pvB (r.off - base)).length+(pvB (r.stamp - stamp)).length:Nat):Int),0):=by rw[g2,e1,qK rfl,v2]
 have e3:g3 l a=(r.dead,((a+(pvB (r.off - base)).length+(pvB (r.stamp - stamp)).length+1:Nat):Int),0):=by rw[g3,e2,qK rfl,Int.toNat_natCast,v3]
 have e4:g4 l a=(r.key,((a+(pvB (r.off - base)).length+(pvB (r.stamp - stamp)).length+1+(ptB r.key).length:Nat):Int),0):=by rw[g4,e3,qK rfl,v4]
 have e5:g5 l a=(r.val,((a+(pvB (r.off - base)).length+(pvB (r.stamp - stamp)).length+1+(ptB r.key).length+(ptB r.val).length:Nat):Int),0):=by rw[g5,e4,qK rfl,v5]
 have er:ry l a base stamp=r:=by
  rw[ry,e1,e2,e3,e4,e5];have b1:bes base (r.off - base)=r.off:=by rw[bes,if_neg (by omega)];omega
  have b2:bes stamp (r.stamp - stamp)=r.stamp:=by rw[bes,if_neg (by omega)];omega
  dsimp only;rw[b1,b2]
 have hal:a≤l.length:=by
  have h6:=congrArg List.length h1;have:=wk (r.off - base);simp at h6;omega
 rw[pE ⟨hb,hs,by omega,by omega⟩,e5];dsimp only;rw[if_pos rfl,er,if_pos hc];refine Prod.ext rfl (Prod.ext ?_ rfl);dsimp only;simp only[prB,length_append,List.length_cons,List.length_nil];omega
theorem xE{l:J3}{a:Nat}{base stamp:Int}(h:(getR l (a:Int) base stamp).2.2=0):∃ q,l.drop a=prB (getR l (a:Int) base stamp).1 base stamp++q∧(getR l (a:Int) base stamp).2.1=((a+(prB (getR l (a:Int) base stamp).1 base stamp).length:Nat):Int)∧jW (getR l (a:Int) base stamp).1=0:=by
 by_cases hin:inO base=true∧inO stamp=true∧0≤(a:Int)∧(a:Int)≤l.length;rotate_left
 ·rw[getR,if_neg hin]at h;cases h
 have k5:(g5 l a).2.2=0:=by
  rcases Int.lt_or_le 0 0 with hh | _
  ·omega
  ·by_cases hh:(g5 l a).2.2=0
   ·exact hh
   ·rw[vn hin hh]at h;exact absurd h hh
 have k4:(g4 l a).2.2=0:=by
  by_cases hh:(g4 l a).2.2=0
  ·exact hh
  ·rw[vE hin hh]at h;exact absurd h hh
 have k3:(g3 l a).2.2=0:=by
  by_cases hh:(g3 l a).2.2=0
  ·exact hh
  ·rw[tG hin hh]at h;exact absurd h hh
 have k2:(g2 l a).2.2=0:=by
  by_cases hh:(g2 l a).2.2=0
  ·exact hh
  ·rw[yc hin hh]at h;exact absurd h hh
 have k1:(g1 l a).2.2=0:=by
  by_cases hh:(g1 l a).2.2=0
  ·exact hh
  ·rw[Bi hin hh]at h;exact absurd h hh
 rw[pE hin,if_pos k5]at h ⊢;split at h;rotate_left
 ·cases h
 rename_i hc;rw[if_pos hc]
 -- field by field
 have e1:=Db l a;rw[e1]at k1;obtain⟨q1,a1,a2,a3⟩:=jx k1;have e2:g2 l a=fC l (fC l a).2.1:=by rw[g2,e1,qK k1]
 generalize hv1:fC l (a:Int)=v1 at *;obtain⟨d1,n1,x1⟩:=v1;dsimp only at *;subst a2;rw[e2]at k2;obtain⟨q2,b1,b2,b3⟩:=jx k2;have e3:g3 l a=rb l (fC l ((a+(pvB d1).length:Nat):Int)).2.1.toNat:=by rw[g3,e2,qK k2]
 generalize hv2:fC l ((a+(pvB d1).length:Nat):Int)=v2 at *;obtain⟨d2,n2,x2⟩:=v2;dsimp only at *;subst b2;rw[Int.toNat_natCast]at e3;have hz1:=fz a1;have hz2:=fz b1
 -- the byte
 generalize hj:a+(pvB d1).length+(pvB d2).length=j at *;obtain⟨x,hx⟩:∃ x,l[j]?=some x:=by
  cases hx:l[j]? with
  | none=>rw[e3,rb,hx]at k3;cases k3
  | some x=>exact⟨x,rfl⟩
 have hxl:¬ 1 < x.toNat:=fun hh=>by
  rw[e3,rb,hx]at k3;dsimp only at k3;rw[if_pos hh]at k3;cases k3
 have e3':g3 l a=(decide (x.toNat=1),((j+1:Nat):Int),0):=by
  rw[e3,rb,hx];dsimp only;rw[if_neg hxl];rfl
 have hd3:=AM hx
 -- the texts
 have e4:g4 l a=ky l ((j+1:Nat):Int) 64:=by rw[g4,e3',qK rfl]
 rw[e4]at k4;obtain⟨q4,c1,c2,c3⟩:=qN k4;have e5:g5 l a=ky l (ky l ((j+1:Nat):Int) 64).2.1 64:=by rw[g5,e4,qK k4]
 generalize hv4:ky l ((j+1:Nat):Int) 64=v4 at *;obtain⟨s4,n4,x4⟩:=v4;dsimp only at *;subst c2;rw[e5]at k5;obtain⟨q5,f1,f2,f3⟩:=qN k5;generalize hv5:ky l ((j+1+(ptB s4).length:Nat):Int) 64=v5 at *;obtain⟨s5,n5,x5⟩:=v5;dsimp only at *;subst f2;have hrr:ry l a base stamp=⟨bes base d1,s4,s5,decide (x.toNat=1),bes stamp d2⟩:=by rw[ry,e1,e2,e3',e4,e5]
 rw[hrr]at hc ⊢;obtain⟨⟨o1,o2⟩,-,-⟩:=fH hc;dsimp only at o1 o2;have hb1:bes base d1 - base=d1:=by
  unfold bes at o1 ⊢;split
  ·rename_i hh;rw[if_pos hh]at o1;simp[inO]at o1
  ·omega
 have hb2:bes stamp d2 - stamp=d2:=by
  unfold bes at o2 ⊢;split
  ·rename_i hh;rw[if_pos hh]at o2;simp[inO]at o2
  ·omega
 have hbyte:(if decide (x.toNat=1)=true then(1:UInt8)else 0)=x:=by
  apply UInt8.toNat_inj.1;by_cases hh:x.toNat=1
  ·simp[hh]
  ·simp[hh];omega
 have hpr:prB ⟨bes base d1,s4,s5,decide (x.toNat=1),bes stamp d2⟩ base stamp=pvB d1++pvB d2++[x]++ptB s4++ptB s5:=by
  rw[prB];dsimp only;rw[hb1,hb2,hbyte]
 have hz4:=fz c1;refine⟨q5,?_,?_,hc⟩
 ·rw[hpr,a1,← hz1,b1,← hz2,hd3,c1,← hz4,f1];simp
 ·rw[e5,hpr];dsimp only;simp only[length_append,List.length_cons,List.length_nil];omega
theorem tL{α:Type}{l:List α}{k:Nat}(h:k < l.length):l=l.take k++(l[k] :: l.drop (k+1)):=by
 rw[← List.drop_eq_getElem_cons h,List.take_append_drop]
theorem lm(a b:J6):fb (a++b)=fb a++fb b:=by simp[fb]
theorem kD(n:Int)(b:J6):fb (n :: b)=pvB n++fb b:=by simp[fb]
theorem lj(base stamp:Int)(a b:List Rec):fR base stamp (a++b)=fR base stamp a++fR base stamp b:=by simp[fR]
theorem kF(base stamp:Int)(r:Rec)(b:List Rec):fR base stamp (r :: b)=prB r base stamp++fR base stamp b:=by simp[fR]
theorem xx{l q:J3}{ns:J6}(hi:∀ n∈ns,I64 n)(h:l=fb ns++q):∀ k,k≤ns.length→mw l k=some (ns.take k,(fb (ns.take k)).length)
 | 0,_=>by simp[mw,fb]
 | k+1,hk=>by
  have hd:l.drop (fb (ns.take k)).length=pvB ns[k]++(fb (ns.drop (k+1))++q):=by
   have e:=tL (l:=ns) (k:=k) (by omega);have:l=fb (ns.take k)++(pvB ns[k]++(fb (ns.drop (k+1))++q)):=by
    rw[h]
    conv=>lhs;rw[e]
    rw[lm,kD];simp
   rw[this,List.drop_left]
  have hv:=ma (hi _ (List.getElem_mem (by omega))) hd;rw[mw,xx hi h k (by omega)];simp only[Option.bind_some];rw[hv];dsimp only;rw[if_pos rfl,Int.toNat_natCast,List.take_succ_eq_append_getElem (by omega),lm,kD];simp[fb]
theorem qf{l:J3}:∀ (k:Nat) (ns:J6) (p:Nat),mw l k=some (ns,p)→ns.length=k∧(∀ n∈ns,I64 n)∧∃ q,l=fb ns++q∧p=(fb ns).length
 | 0,ns,p,h=>by
  simp only[mw,Option.some.injEq,Prod.mk.injEq]at h;obtain⟨rfl,rfl⟩:=h;exact⟨rfl,by simp,l,by simp[fb],by simp[fb]⟩
 | k+1,ns,p,h=>by
  rw[mw]at h;cases hk:mw l k with
  | none=>rw[hk]at h;cases h
  | some r =>
   obtain⟨ns',p'⟩:=r;rw[hk]at h;simp only[Option.bind_some]at h;split at h
   ·rename_i h0;obtain⟨h1,h2,q,h3,h4⟩:=qf k ns' p' hk;obtain⟨q2,e1,e2,e3⟩:=jx h0;simp only[Option.some.injEq,Prod.mk.injEq]at h;obtain⟨rfl,rfl⟩:=h;rw[e2];generalize (fC l (p':Int)).1=n at e1 e3 ⊢;refine⟨by simp[h1],?_,q2,?_,?_⟩
    ·intro x hx;rcases List.mem_append.1 hx with hx | hx
     ·exact h2 x hx
     ·simp at hx;rw[hx];exact e3
    ·have:q=pvB n++q2:=by rw[← e1,h3,h4,List.drop_left]
     rw[h3,this,lm,kD];simp[fb]
    ·rw[Int.toNat_natCast,lm,kD,h4];simp[fb]
   ·cases h
theorem sE{l q:J3}{base stamp:Int}{p:Nat}{rs:List Rec}(hb:inO base=true)(hs:inO stamp=true)(hc:∀ r∈rs,jW r=0)(h:l.drop p=fR base stamp rs++q):∀ k,k≤rs.length→gH l base stamp p k=some (rs.take k,p+(fR base stamp (rs.take k)).length)
 | 0,_=>by simp[gH,fR]
 | k+1,hk=>by
  have hd:l.drop (p+(fR base stamp (rs.take k)).length)=prB rs[k] base stamp++(fR base stamp (rs.drop (k+1))++q):=by
   have e:=tL (l:=rs) (k:=k) (by omega);refine fz (p:=fR base stamp (rs.take k)) ?_;rw[h]
   conv=>lhs;rw[e]
   rw[lj,kF];simp
  have hv:=Bs hb hs (hc _ (List.getElem_mem (by omega))) hd;rw[gH,sE hb hs hc h k (by omega)];simp only[Option.bind_some];rw[hv];dsimp only;rw[if_pos rfl,Int.toNat_natCast,List.take_succ_eq_append_getElem (by omega),lj,kF];simp[fR];omega
theorem od{l:J3}{base stamp:Int}{p:Nat}:∀ (k:Nat) (rs:List Rec) (p':Nat),gH l base stamp p k=some (rs,p')→rs.length=k∧(∀ r∈rs,jW r=0)∧∃ q,l.drop p=fR base stamp rs++q∧p'=p+(fR base stamp rs).length
 | 0,rs,p',h=>by
  simp only[gH,Option.some.injEq,Prod.mk.injEq]at h;obtain⟨rfl,rfl⟩:=h;exact⟨rfl,by simp,l.drop p,by simp[fR],by simp[fR]⟩
 | k+1,rs,p',h=>by
  rw[gH]at h;cases hk:gH l base stamp p k with
  | none=>rw[hk]at h;cases h
  | some r =>
   obtain⟨rs',p1⟩:=r;rw[hk]at h;simp only[Option.bind_some]at h;split at h
   ·rename_i h0;obtain⟨h1,h2,q,h3,h4⟩:=od k rs' p1 hk;obtain⟨q2,e1,e2,e3⟩:=xE h0;simp only[Option.some.injEq,Prod.mk.injEq]at h;obtain⟨rfl,rfl⟩:=h;rw[e2];generalize (getR l (p1:Int) base stamp).1=r at e1 e3 ⊢;refine⟨by simp[h1],?_,q2,?_,?_⟩
    ·intro x hx;rcases List.mem_append.1 hx with hx | hx
     ·exact h2 x hx
     ·simp at hx;rw[hx];exact e3
    ·have:q=prB r base stamp++q2:=by rw[← e1,h4,fz h3]
     rw[h3,this,lj,kF];simp[fR]
    ·rw[Int.toNat_natCast,lj,kF,h4];simp[fR];omega
   ·cases h
theorem wW{m:UInt8}(h:m.toNat < 8):UInt8.ofNat ((((m.toNat % 4:Nat):Int)).toNat+if decide (4≤m.toNat)=true then 4 else 0)=m:=by
 apply UInt8.toNat_inj.1;rw[Int.toNat_natCast];by_cases h4:4≤m.toNat
 ·rw[if_pos (decide_eq_true h4),tX (by omega)];omega
 ·rw[if_neg (by simpa using h4),tX (by omega)];omega
theorem tP{l:J3}{x:Batch}(h:eV 15 l=some x):l=fM x:=by
 unfold eV at h;cases hn:mw l 7 with
 | none=>rw[hn]at h;cases h
 | some q =>
  obtain⟨ns,p⟩:=q;rw[hn]at h;simp only[Option.bind_some]at h;obtain⟨hnl,hni,q0,hl0,rfl⟩:=qf 7 ns p hn;unfold kn at h;dsimp only at h;cases hm:l[(fb ns).length]? with
  | none=>rw[hm]at h;cases h
  | some m =>
   rw[hm]at h;simp only[Option.bind_some]at h;split at h;rotate_left
   ·cases h
   rename_i hc;obtain⟨hm8,hn0,hn1⟩:=hc;have hd1:=AM hm;unfold kg at h;split at h;rotate_left
   ·cases h
   rename_i hv;obtain⟨q1,e1,e2,e3⟩:=jx (a:=(fb ns).length+1) hv.1;rw[show(((fb ns).length:Nat):Int)+1=(((fb ns).length+1:Nat):Int)from rfl]at h hv;generalize fC l (((fb ns).length+1:Nat):Int)=v at *;obtain⟨n,nx,er⟩:=v;dsimp only at *;subst e2;generalize hsd:(if 0 < n then fC l (((fb ns).length+1+(pvB n).length:Nat):Int)else(0,(((fb ns).length+1+(pvB n).length:Nat):Int),0))=s at h;unfold kN at h
   split at h;rotate_left
   ·cases h
   rename_i hs;cases hr:gH l (ns.getD 0 0) s.1 s.2.1.toNat n.toNat with
   | none=>rw[hr]at h;cases h
   | some q =>
    obtain⟨rs,p3⟩:=q;rw[hr]at h;simp only[Option.bind_some]at h;split at h;rotate_left
    ·cases h
    rename_i hf;obtain⟨hp3,hso⟩:=hf;cases h;obtain⟨hrl,hrc,q3,f1,f2⟩:=od _ rs p3 hr;obtain⟨n0,n1,n2,n3,n4,n5,n6,rfl⟩:∃ n0 n1 n2 n3 n4 n5 n6:Int,ns=[n0,n1,n2,n3,n4,n5,n6]:=by
     match ns,hnl with
     | [n0,n1,n2,n3,n4,n5,n6],_=>exact⟨n0,n1,n2,n3,n4,n5,n6,rfl⟩
    have hhead:fg (mkB [n0,n1,n2,n3,n4,n5,n6] m rs)=[n0,n1,n2,n3,n4,n5,n6]:=by
     have:n0+n1 - n0=n1:=by omega
     simp[fg,mkB,this]
    have hmark:iQ (mkB [n0,n1,n2,n3,n4,n5,n6] m rs)=m:=wW hm8;have hlen:(rs.length:Int)=n:=by omega
    have hq3:q3=[]:=by
     have:=congrArg List.length f1;simp only[List.length_drop,length_append]at this;exact List.eq_nil_of_length_eq_zero (by
      by_cases hsl:s.2.1.toNat≤l.length
      ·omega
      ·omega)
    subst hq3;rw[append_nil]at f1;have hbody:fM (mkB [n0,n1,n2,n3,n4,n5,n6] m rs)=fb [n0,n1,n2,n3,n4,n5,n6]++[m]++pvB n++ii (mkB [n0,n1,n2,n3,n4,n5,n6] m rs):=by
     rw[fM,hhead,hmark];show _++_++pvB (rs.length:Int)++_=_;rw[hlen]
    rw[hbody];have hq0:q0=l.drop (fb [n0,n1,n2,n3,n4,n5,n6]).length:=by rw[hl0,List.drop_left]
    have hz1:=fz e1;have htail:q1=ii (mkB [n0,n1,n2,n3,n4,n5,n6] m rs):=by
     match rs,hrl,hso,f1 with
     | [],hrl,_,f1 =>
      have hn0':¬ 0 < n:=by simp at hlen;omega
      rw[if_neg hn0']at hsd;subst hsd;rw[Int.toNat_natCast]at f1;dsimp only at f1;rw[hz1]at f1;rw[f1];simp[ii,mkB,fR]
     | r :: rs,hrl,hso,f1 =>
      have hn0':0 < n:=by simp at hlen;omega
      rw[if_pos hn0']at hsd;subst hsd;obtain⟨q4,g1',g2',g3'⟩:=jx hs;have hst:r.stamp=(fC l (((fb [n0,n1,n2,n3,n4,n5,n6]).length+1+(pvB n).length:Nat):Int)).1:=by simpa [xy]using hso
      rw[g2',Int.toNat_natCast,fz g1']at f1;rw[← hz1,g1',f1,ii];simp only[mkB];rw[hst]
    rw[← htail,hl0]
    conv=>lhs;rw[hq0,hd1,e1]
    simp
theorem wz(x:Batch):0 < (fM x).length:=by
 simp only[fM,length_append,List.length_cons,List.length_nil];omega
theorem zP{x:Batch}(hf:iP x):eV 15 (fM x)=some x:=by
 have hf0:=hf;obtain⟨hrc,hrl⟩:=kf hf0;obtain⟨⟨f1,f2,f3⟩,⟨f4,f5,f6⟩,⟨f7,f8,f9,f10⟩,f11,f12,f13⟩:=hf;simp[rng]at f1 f2 f3 f4 f5 f6;have hi:∀ n∈fg x,I64 n:=by
  intro n hn;simp[fg]at hn;unfold I64;omega
 have hb:fM x=fb (fg x)++(iQ x :: (pvB x.recs.length++ii x)):=by simp[fM]
 have h7:=xx hi hb 7 (by simp[fg]);rw[show(fg x).take 7=fg x from rfl]at h7;have hctl:x.ctl=0∨x.ctl=1∨x.ctl=2:=by
  rcases f13 with h | h
  ·exact .inl h.1
  ·exact .inr h.1
 have hmark:(iQ x).toNat=x.ctl.toNat+(if x.txn=true then 4 else 0):=by
  rw[iQ,tX];split <;> omega
 have hmk:mkB (fg x) (iQ x) x.recs=x:=by
  have h4:x.base+(x.last - x.base)=x.last:=by omega
  have h5:decide (4≤(iQ x).toNat)=x.txn:=by
   rw[hmark];cases x.txn
   ·simp;omega
   ·simp
  have h6:(((iQ x).toNat % 4:Nat):Int)=x.ctl:=by
   rw[hmark];split <;> omega
  simp only[mkB,fg,List.getD_cons_zero,List.getD_cons_succ,h4,h5,h6]
 generalize fM x=l at hb h7 ⊢;have hd0:l.drop (fb (fg x)).length=iQ x :: (pvB x.recs.length++ii x):=by rw[hb,List.drop_left]
 have hm:=I0 hd0;have hd1:l.drop ((fb (fg x)).length+1)=pvB x.recs.length++ii x:=fz (p:=[iQ x]) hd0;have hv:=ma (n:=x.recs.length) (by unfold I64;omega) hd1;have hd2:=fz hd1;have hll:(l.drop ((fb (fg x)).length+1+(pvB (x.recs.length:Int)).length)).length=(ii x).length:=by rw[hd2]
 have hle:(fb (fg x)).length+1+(pvB (x.recs.length:Int)).length+(ii x).length=l.length:=by
  have:=congrArg List.length hb;simp only[length_append,List.length_cons]at this;omega
 rw[eV,h7];simp only[Option.bind_some];rw[kn];dsimp only;rw[hm];simp only[Option.bind_some];rw[if_pos ⟨by rw[hmark];split <;> omega,by show 0≤x.base∧x.base≤_;omega,by show 0≤x.last - x.base∧x.last - x.base≤_;omega⟩];rw[show(((fb (fg x)).length:Nat):Int)+1=(((fb (fg x)).length+1:Nat):Int)from rfl,hv,kg];dsimp only;rw[if_pos ⟨rfl,by omega,by omega⟩,Int.toNat_natCast]
 generalize (fb (fg x)).length+1+(pvB (x.recs.length:Int)).length=p2 at hd2 hle;have hbase:(fg x).getD 0 0=x.base:=rfl;cases hr:x.recs with
 | nil =>
  rw[hr]at hmk;have ht:ii x=[]:=by rw[ii,hr]
  rw[if_neg (by simp),kN,if_pos rfl,Int.toNat_natCast];simp only[List.length_nil,gH,Option.bind_some];rw[if_pos ⟨by rw[ht]at hle;simpa using hle,rfl⟩,hmk]
 | cons r rs =>
  have ht:ii x=pvB r.stamp++fR x.base r.stamp (r :: rs):=by rw[ii,hr]
  have hc0:=fH (hrc r (by rw[hr];simp));have hsi:=ib.1 hc0.1.2;rw[ht]at hd2 hle;have hv2:=ma (n:=r.stamp) (by unfold I64;omega) hd2;have hd3:=fz hd2;have hg:=sE (q:=[]) (ib.2 f1) hc0.1.2 (fun y hy=>hrc y (by rw[hr];exact hy)) (by rw[hd3,append_nil]) (r :: rs).length (Nat.le_refl _);rw[take_length]at hg;rw[if_pos (by simp only[List.length_cons];omega),hv2,kN];dsimp only
  rw[if_pos rfl,Int.toNat_natCast,hbase,hg];simp only[Option.bind_some];rw[if_pos ⟨by simp only[length_append]at hle;omega,by simp[xy]⟩,← hr,hmk]
theorem yz(b:J3):gX (g0 b)=(b,0):=by
 have hl:=kj b;have h1:(g0 b).take ((g0 b).length - 4)=b:=by
  rw[hl,Nat.add_sub_cancel,g0,List.take_left]
 have h2:(g0 b).drop ((g0 b).length - 4)=kc (Ar b).toNat 4:=by
  rw[hl,Nat.add_sub_cancel,g0,List.drop_left]
 rw[gX,if_neg (by omega),h1,h2,if_pos rfl]
theorem ua{l:J3}(h:(gX l).2=0):l=g0 (gX l).1:=by
 unfold gX at h ⊢;split at h
 ·cases h
 ·rename_i h0;rw[if_neg h0];split at h
  ·rename_i h1;rw[if_pos h1];dsimp only
   conv=>lhs;rw[← List.take_append_drop (l.length - 4) l,h1]
   rfl
  ·cases h
theorem gP(x:Batch):9≤(ek x).length:=by
 have:=wz x;rw[lW];omega
theorem xp{l q:J3}{a:Nat}{x:Batch}(h0:fF x=0)(h:l.drop a=ek x++q):getB l (a:Int)=(x,((a+(ek x).length:Nat):Int),0):=by
 obtain⟨hf,hbl⟩:=jP h0;have hbp:=gP x;have hb8:=lW x;have hsl:=kj (fM x);have hd:l.drop a=kc (g0 (fM x)).length 4++(g0 (fM x)++q):=by rw[h,ek,List.append_assoc]
 have hd4:l.drop (a+4)=g0 (fM x)++q:=by
  have:=fz hd
  rwa [fP]at this
 have hn:ig l (a:Int) 4=((g0 (fM x)).length,0):=by
  rw[jN,hd,if_neg (by simp[fP]),List.take_left' (fP _ _),nB 4 _ (by omega)]
 rw[getB,hn];dsimp only;rw[if_pos rfl,if_pos ⟨by omega,by omega⟩,Int.toNat_natCast,hd4,if_pos (by simp),List.take_left,yz];dsimp only;rw[if_pos rfl,nc (zP hf) h0];dsimp only;refine Prod.ext rfl (Prod.ext ?_ rfl);dsimp only;omega
theorem xb{l:J3}{a:Int}(h:(getB l a).2.2=0):∃ (b:Nat) (q:J3),a=b∧l.drop b=ek (getB l a).1++q∧(getB l a).2.1=((b+(ek (getB l a).1).length:Nat):Int)∧fF (getB l a).1=0:=by
 unfold getB at h ⊢;split at h;rotate_left
 ·rename_i h0;exact absurd h h0
 rename_i h0;rw[if_pos h0];split at h;rotate_left
 ·cases h
 rename_i h1;rw[if_pos h1];split at h;rotate_left
 ·cases h
 rename_i h2;rw[if_pos h2];split at h;rotate_left
 ·rename_i h3;exact absurd h h3
 rename_i h3;rw[if_pos h3];obtain⟨ha,hal⟩:=(r8 h0).resolve_right (by decide);obtain⟨b,rfl⟩:∃ n:Nat,a=n:=⟨a.toNat,by omega⟩;rw[Int.toNat_natCast]at *;have hs:=ua h3;cases hp:rn 15 (gX ((l.drop (b+4)).take (ig l (b:Int) 4).1)).1 with
 | none=>rw[hp]at h;cases h
 | some x =>
  rw[hp]at h;dsimp only;rw[rn]at hp;cases hq:eV 15 (gX ((l.drop (b+4)).take (ig l (b:Int) 4).1)).1 with
  | none=>rw[hq]at hp;cases hp
  | some y =>
   rw[hq]at hp;simp only[Option.bind_some]at hp;split at hp;rotate_left
   ·cases hp
   rename_i h4;cases hp;have hb:=tP hq;rw[hb]at hs;have hn:ig l (b:Int) 4=(kH ((l.drop b).take 4),0):=by
    rw[jN,if_neg (by simp;omega)]
   have hlen:(ig l (b:Int) 4).1=(g0 (fM x)).length:=by
    rw[← hs];simp only[List.length_take];omega
   have hd4:l.drop (b+4)=g0 (fM x)++(l.drop (b+4)).drop (ig l (b:Int) 4).1:=by
    conv=>lhs;rw[← List.take_append_drop (ig l (b:Int) 4).1 (l.drop (b+4)),hs]
   have hd:l.drop b=(l.drop b).take 4++l.drop (b+4):=by
    rw[← List.drop_drop];exact(List.take_append_drop 4 _).symm
   have h44:(l.drop b).take 4=kc (g0 (fM x)).length 4:=by
    rw[← hlen,hn];exact(mY 4 _ (by simp;omega)).symm
   refine⟨b,(l.drop (b+4)).drop (ig l (b:Int) 4).1,rfl,?_,?_,h4⟩
   ·rw[ek,List.append_assoc,← hd4,← h44];exact hd
   ·rw[ek,length_append,fP,← hlen];omega
def fG(l:J4):J3:=l.flatMap ek
theorem m8{l:J4}{k:Nat}{x:Batch}(hx:l[k]?=some x):fG (l.take (k+1))=fG (l.take k)++ek x:=by
 unfold fG;rw[List.take_add_one,hx];simp[List.flatMap_append]
theorem vw{l:J4}{k:Nat}{x:Batch}(hx:l[k]?=some x):(fG l).drop (fG (l.take k)).length=ek x++fG (l.drop (k+1)):=by
 obtain⟨hk,he⟩:=List.getElem?_eq_some_iff.1 hx;have h1:fG l=fG (l.take k)++(ek x++fG (l.drop (k+1))):=by
  conv=>lhs;rw[← List.take_append_drop k l,List.drop_eq_getElem_cons hk,he]
  simp[fG,List.flatMap_append]
 rw[h1,List.drop_left]
theorem H1{v:W32}(h:stp v=0#32):v=0#32:=by
 cases hb:v.getLsbD 0 with
 | true =>
  exfalso;rw[stp,if_pos hb]at h;have h2:((v >>> 1) ^^^ uo).getLsbD 31=(0#32).getLsbD 31:=by rw[h]
  rw[BitVec.getLsbD_xor,BitVec.getLsbD_ushiftRight]at h2;have h3:v.getLsbD (1+31)=false:=BitVec.getLsbD_of_ge _ _ (by omega);rw[h3]at h2;exact absurd h2 (by decide)
 | false =>
  rw[tt hb]at h;have h1:(v >>> 1).toNat=0:=by rw[h];rfl
  rw[BitVec.toNat_ushiftRight,Nat.shiftRight_eq_div_pow]at h1;have h2:¬ v.toNat % 2=1:=fun hh=>by rw[(F6 v).2 hh]at hb;cases hb
  apply BitVec.eq_of_toNat_eq;show v.toNat=0;omega
structure Sg where
 base:Int
 bytes:J3
deriving DecidableEq
def uH:Int→J4→Prop
 | _,[]=>True
 | nx,x :: xs=>nx≤x.base∧uH (x.last+1) xs
def fQ:Int→J4→Int
 | nx,[]=>nx
 | _,x :: xs=>fQ (x.last+1) xs
def oB(q:J3)(nx:Int):Prop:=(getB q 0).2.2=0∧nx≤(getB q 0).1.base
instance (q:J3) (nx:Int):Decidable (oB q nx):=by unfold oB;infer_instance
def Ad:Nat→Int→J3→J4
 | 0,_,_=>[]
 | f+1,nx,q=>if oB q nx then(getB q 0).1 :: Ad f ((getB q 0).1.last+1) (q.drop (ek (getB q 0).1).length)else[]
structure Scans (nx:Int) (q:J3) (bs:J4) (r:J3):Prop where
 eq:q=fG bs++r
 ok:∀ x∈bs,fF x=0
 ord:uH nx bs
 stop:¬ oB r (fQ nx bs)
def fe(s:Sg):J4:=Ad s.bytes.length s.base s.bytes
def fY(s:Sg):Nat:=(fG (fe s)).length
def j8(s:Sg):Int:=fQ s.base (fe s)
theorem gW(x:Batch)(l:J4):fG (x :: l)=ek x++fG l:=rfl
theorem lA(a b:J4):fG (a++b)=fG a++fG b:=by simp[fG]
theorem lL(nx:Int)(a b:J4):fQ nx (a++b)=fQ (fQ nx a) b:=by
 induction a generalizing nx with
 | nil=>rfl
 | cons x a ih=>exact ih _
theorem oC(nx:Int)(a b:J4):uH nx (a++b)↔uH nx a∧uH (fQ nx a) b:=by
 induction a generalizing nx with
 | nil=>simp[uH,fQ]
 | cons x a ih=>simp only[List.cons_append,uH,fQ,ih,and_assoc]
theorem tg{q s:J3}{x:Batch}(h0:fF x=0)(h:q=ek x++s):getB q 0=(x,((ek x).length:Int),0):=by
 have:=xp (l:=q) (a:=0) h0 h;rw[Nat.zero_add]at this;exact this
theorem sk{q:J3}{nx:Int}(h:oB q nx):∃ x s,getB q 0=(x,((ek x).length:Int),0)∧q=ek x++s∧fF x=0∧nx≤x.base:=by
 obtain⟨h1,h2⟩:=h;obtain⟨b,s,e0,e1,e2,e3⟩:=xb h1;have hb:b=0:=by omega
 subst hb;exact⟨_,s,tg e3 e1,e1,e3,h2⟩
theorem vz{q s:J3}{x:Batch}{nx:Int}(h0:fF x=0)(h:q=ek x++s):oB q nx↔nx≤x.base:=by
 rw[oB,tg h0 h];simp
theorem ou:∀ (f:Nat) (nx:Int) (q:J3),q.length≤f→∃ r,Scans nx q (Ad f nx q) r
 | 0,nx,q,h=>by
  have hq:q=[]:=List.eq_nil_of_length_eq_zero (by omega);subst hq;refine⟨[],⟨rfl,fun x hx=>(by cases hx),trivial,fun hm=>?_⟩⟩;obtain⟨x,s,-,e,-⟩:=sk hm;have:=gP x;have h2:=congrArg List.length e;simp at h2;omega
 | f+1,nx,q,h=>by
  unfold Ad;split
  ·rename_i hm;obtain⟨x,s,e1,e2,e3,e4⟩:=sk hm;rw[e1];dsimp only;have hp:=gP x;have hd:q.drop (ek x).length=s:=by rw[e2,List.drop_left]
   rw[hd];obtain⟨r,hr⟩:=ou f (x.last+1) s (by rw[e2,length_append]at h;omega);refine⟨r,⟨by rw[gW,List.append_assoc,← hr.eq,e2],fun y hy=>?_,⟨e4,hr.ord⟩,hr.stop⟩⟩;rcases List.mem_cons.1 hy with rfl | hy
   ·exact e3
   ·exact hr.ok y hy
  ·rename_i hm;exact⟨q,⟨rfl,fun x hx=>(by cases hx),trivial,hm⟩⟩
theorem fx(s:Sg):∃ r,Scans s.base s.bytes (fe s) r:=ou _ _ _ (Nat.le_refl _)
theorem Scans.uniq:∀ {bs bs':J4} {nx:Int} {q r r':J3},Scans nx q bs r→Scans nx q bs' r'→bs=bs'∧r=r'
 | [],[],nx,q,r,r',h,h'=>⟨rfl,by have:=h.eq.symm.trans h'.eq;exact this⟩
 | [],x :: bs',nx,q,r,r',h,h'=>by
  have hq:q=r:=h.eq;subst hq;exact absurd ((vz (h'.ok x (.head _)) (by rw[h'.eq,gW,List.append_assoc])).2 h'.ord.1) h.stop
 | x :: bs,[],nx,q,r,r',h,h'=>by
  have hq:q=r':=h'.eq;subst hq;exact absurd ((vz (h.ok x (.head _)) (by rw[h.eq,gW,List.append_assoc])).2 h.ord.1) h'.stop
 | x :: bs,y :: bs',nx,q,r,r',h,h'=>by
  have e1:q=ek x++(fG bs++r):=by rw[h.eq,gW,List.append_assoc]
  have e2:q=ek y++(fG bs'++r'):=by rw[h'.eq,gW,List.append_assoc]
  have g1:=tg (h.ok x (.head _)) e1;have g2:=tg (h'.ok y (.head _)) e2;rw[g1]at g2;have hxy:x=y:=congrArg Prod.fst g2;subst hxy;rw[e1]at e2;have e3:=List.append_cancel_left e2;obtain⟨rfl,rfl⟩:=Scans.uniq (nx:=x.last+1) (q:=fG bs++r) ⟨rfl,fun z hz=>h.ok z (.tail _ hz),h.ord.2,h.stop⟩ ⟨e3,fun z hz=>h'.ok z (.tail _ hz),h'.ord.2,h'.stop⟩;exact⟨rfl,rfl⟩
theorem Scans.is{s:Sg}{bs:J4}{r:J3}(h:Scans s.base s.bytes bs r):fe s=bs:=by
 obtain⟨r',h'⟩:=fx s;exact(h'.uniq h).1
theorem vj{l:J3}{a:Nat}:(getB l (a:Int)).1=(getB (l.drop a) 0).1∧(getB l (a:Int)).2.2=(getB (l.drop a) 0).2.2:=by
 have h1:ig l (a:Int) 4=ig (l.drop a) 0 4:=by
  unfold ig;rw[if_neg (show ¬ (a:Int) < 0 by omega),if_neg (show ¬ (0:Int) < 0 by omega)];simp only[Int.toNat_natCast,Int.toNat_zero,List.drop_zero]
 have h2:l.drop (a+4)=(l.drop a).drop 4:=by rw[List.drop_drop]
 unfold getB;rw[h1];simp only[Int.toNat_natCast,h2,Int.toNat_zero,Nat.zero_add];split
 ·split
  ·split
   ·split
    ·split <;> exact⟨rfl,rfl⟩
    ·exact⟨rfl,rfl⟩
   ·exact⟨rfl,rfl⟩
  ·exact⟨rfl,rfl⟩
 ·exact⟨rfl,rfl⟩
theorem gL(l:J4)(k:Nat):(fG (l.take k)).length≤(fG l).length:=by
 conv=>rhs;rw[← List.take_append_drop k l,lA,length_append]
 omega
theorem Scans.len{nx:Int}{q r:J3}{bs:J4}(h:Scans nx q bs r):9 * bs.length≤(fG bs).length∧(fG bs).length≤q.length:=by
 refine⟨?_,by rw[h.eq,length_append];omega⟩;clear h
 induction bs with
 | nil=>simp
 | cons x bs ih =>
  have:=gP x;rw[gW,length_append,List.length_cons];omega
theorem Scans.at_{nx:Int}{q r:J3}{bs:J4}(h:Scans nx q bs r){k:Nat}{x:Batch}(hx:bs[k]?=some x):
  getB q (((fG (bs.take k)).length:Nat):Int)=(x,(((fG (bs.take (k+1))).length:Nat):Int),0)∧fQ nx (bs.take k)≤x.base∧fQ nx (bs.take (k+1))=x.last+1∧fF x=0:=by
 have hd:q.drop (fG (bs.take k)).length=ek x++(fG (bs.drop (k+1))++r):=by
  have:=vw hx;rw[h.eq,List.drop_append_of_le_length (gL _ _),this,List.append_assoc]
 obtain⟨hk,he⟩:=List.getElem?_eq_some_iff.1 hx;have e1:bs=bs.take k++(x :: bs.drop (k+1)):=by
  conv=>lhs;rw[← List.take_append_drop k bs,List.drop_eq_getElem_cons hk,he]
 have ho:=h.ord;rw[e1,oC]at ho;have h0:=h.ok x (mem_of_getElem? hx);refine⟨?_,ho.2.1,?_,h0⟩
 ·rw[xp h0 hd,m8 hx,length_append]
 ·rw[List.take_add_one,hx];show fQ nx (bs.take k++[x])=_;rw[lL];rfl
theorem Scans.end_{nx:Int}{q r:J3}{bs:J4}(h:Scans nx q bs r):¬ (getB q (((fG bs).length:Nat):Int)).2.2=0∨(getB q (((fG bs).length:Nat):Int)).1.base < fQ nx bs:=by
 have hs:=h.stop;have hd:=@vj q (fG bs).length;have e:q.drop (fG bs).length=r:=by rw[h.eq,List.drop_left]
 rw[e]at hd;rw[hd.1,hd.2];unfold oB at hs;by_cases h0:(getB r 0).2.2=0
 ·right;have:¬ fQ nx bs≤(getB r 0).1.base:=fun hh=>hs ⟨h0,hh⟩
  omega
 ·exact .inl h0
theorem F151:Fun Tryz.prog 151 4 v151 c151 o151:=Fun.mkA Tryz.func151 Tryz.ntmps151
theorem F177:Fun Tryz.prog 177 37 v177 c177 o177:=Fun.mkA Tryz.func177 Tryz.ntmps177
theorem F131:Fun Tryz.prog 131 17 v131 c131 o131:=Fun.mkA Tryz.func131 Tryz.ntmps131
theorem F114:Fun Tryz.prog 114 15 v114 c114 o114:=Fun.mkA Tryz.func114 Tryz.ntmps114
theorem mu{s:Nat}:∀ {L:JW},ez L→rmR s L=L
 | [],_=>rfl
 | .reg s' cs :: L,h=>absurd (.head _) (h s' cs)
 | .blk b cs :: L,h=>congrArg (Kx.Item.blk b cs :: ·) (mu (s:=s) fun s cs hm=>h s cs (.tail _ hm))
 | .row v e sz n xs :: L,h=>congrArg (Kx.Item.row v e sz n xs :: ·) (mu (s:=s) fun s cs hm=>h s cs (.tail _ hm))
 | .obj b o :: L,h=>congrArg (Kx.Item.obj b o :: ·) (mu (s:=s) fun s cs hm=>h s cs (.tail _ hm))
theorem ET{h:H}{b b':Nat}{c c':JU}(hs:List.Sublist [Kx.Item.blk b c,.blk b' c'] h.L):fa h fun h'=>h'=h∧¬ b=b':=fa.fact fun β w s=>by
 have hd:(dom β [Kx.Item.blk b c,.blk b' c']).Sublist (dom β h.L):=hs.filterMap _;have:=hd.nodup (List.nodup_append.1 s.nd).1;simpa [dom,Item.block]using this
theorem eU{α:Type}{E E':α→JU→Prop}{sz:Nat}{xs:List α}{ys:JU}(h:Cells E sz xs ys)(hE:∀ x cs,E x cs→E' x cs):Cells E' sz xs ys:=by
 induction h with
 | nil=>exact .nil
 | cons h1 h2 _ ih=>exact .cons (hE _ _ h1) h2 ih
def fX(s:Sg)(A:JY)(c:Nat):JU:=[.int .i64 s.base,.slice A s.bytes.length c]
def SE(G:JT)(s:Sg)(cs:JU):Prop:=∃ A c,cs=fX s A c∧SB G (.slice A s.bytes.length c) s.bytes∧I64 s.base
theorem SE.le{G G':JT}(hg:Gle G G'){s:Sg}{cs:JU}(h:SE G s cs):SE G' s cs:=by
 obtain⟨A,c,h1,h2,h3⟩:=h;exact⟨A,c,h1,SB.le h2 hg,h3⟩
def EB(bs:J4)(G:JT)(k:Nat)(args:Array Value):Prop:=∃ x cs,bs[k]?=some x∧BE G x cs∧args=#[.agg cs.toArray,.int .i64 (((fG (bs.take (k+1))).length:Nat):Int)]
theorem vr{x:Batch}(h:fF x=0):IntKind.i64.wrap (x.last+1)=x.last+1:=by
 obtain⟨⟨-,f2,-⟩,-⟩:=(jP h).1;simp[rng]at f2;rw[eh] <;> omega
theorem pc{n k i:Nat}(h:(List.range n)[k]?=some i):i=k∧k < n:=by
 have h1:=(List.getElem?_eq_some_iff.1 h).1;rw[List.length_range]at h1;rw[List.getElem?_range h1]at h;cases h;exact⟨rfl,h1⟩
theorem uv(s:Sg)(A:JY)(c b:Nat)(G0:JT)(hl:SB G0 (.slice A s.bytes.length c) s.bytes)(hb:s.bytes.length≤1000000)(h0:fw G0 ⟨b,0,none⟩=some (.int .i64 s.base))(h1:fw G0 ⟨b,1,none⟩=some (.slice A s.bytes.length c)):
  kJ Tryz.prog 177 #[.pointer (some ⟨b,0,none⟩)] (List.range (fe s).length) (EB (fe s)) G0:=by
 obtain⟨r,hsc⟩:=fx s;generalize fe s=bs at hsc;intro yl I Ix G L hG hn hI hIx hmo hi0 hy L2 D;have hargs:(#[.func (.yield yl) #[] #[]]++#[.pointer (some ⟨b,0,none⟩)]:Array Value)=#[.func (.yield yl) #[] #[],.pointer (some ⟨b,0,none⟩)]:=rfl;rw[hargs,List.length_range];refine(F177.calls (R:=fun _ h=>Gle G h.G∧(I bs.length h.G h.L∨∃ i,i < bs.length∧Ix i h.G h.L)) (by simp) hn (d7 ?_) L2 D).mono ?_
 rotate_left
 ·rintro v h' ⟨G',L',rfl,hn',hgg,hr⟩;exact⟨G',L',rfl,hgg,hn',hr⟩
 have e0:=em hG h0;have e1:=em hG h1;have hlG:=SB.le hl hG;have hlen:=hsc.len;unfold c177;intros;refine dT ?_;refine pP 8 10 (by decide) ?_;refine sJ c177r0.eq_1 ?_;refine⟨_,⟨_,rfl,.g e0⟩,?_⟩;refine sI ?_;intros;refine dT ?_
 refine ej (fun e h=>∃ (t:Nat) (G':JT) (L' Lh:JW),(t≤bs.length∧Gle G G'∧ez L'∧I t G' L')∧e 3=.int .i64 (((fG (bs.take t)).length:Nat):Int)∧e 4=.int .i64 (fQ s.base (bs.take t))∧e 0=.func (.yield yl) #[] #[]∧e 1=.pointer (some ⟨b,0,none⟩)∧h=⟨G',Lh,[]⟩∧L'.Sublist Lh) (fun e h=>s.bytes.length+1 - iv (e 3)) ?_ ?_
 ·exact⟨0,G,L,L,⟨Nat.zero_le _,.refl G,hn,hi0⟩,rfl,rfl,eE,eE,rfl,List.Sublist.refl _⟩
 rintro e h ⟨t,G',L',Lh,⟨ht,hgg,hn',hI'⟩,e3,e4,e00,e11,rfl,hsub⟩;refine dX [0,1,3,4] ?_;refine sJ4 @e00 @e11 @e3 @e4 ?_;intros;refine dW (dY hsub) ?_;have hrm:=mu (s:=5) hn';have e1':=em hgg e1;have hget:=Bv s.bytes (((fG (bs.take t)).length:Nat):Int) _ G' (SB.le hlG hgg) hb;unfold qQ at hget;have htk:=gL bs t
 have hw1:IntKind.i64.wrap (((fG (bs.take t)).length:Nat):Int)=(((fG (bs.take t)).length:Nat):Int):=by rw[eh] <;> omega
 intros;refine gR 10 18 c177r1.eq_1 ?_;refine⟨_,⟨_,rfl,.g e1'⟩,?_⟩;refine sI ?_;refine(hget _ _).mono ?_;rintro v h' ⟨G1,rfl,hg1,cs,rfl,hbe⟩;by_cases htl:t < bs.length
 ·obtain⟨x,hx⟩:∃ x,bs[t]?=some x:=⟨bs[t],getElem?_eq_getElem htl⟩;obtain⟨a1,a2,a3,a4⟩:=hsc.at_ hx;rw[a1]at hbe ⊢;dsimp only at hbe ⊢;have hbe0:=hbe;obtain⟨B,d,rfl,-⟩:=hbe;have hlt:(fG (bs.take t)).length < (fG (bs.take (t+1))).length:=by
   have:=gP x;rw[m8 hx,length_append];omega
  have hle:=gL bs (t+1);have hEB:EB bs G1 t #[.agg (fo x (.slice B x.recs.length d)).toArray,.int .i64 (((fG (bs.take (t+1))).length:Nat):Int)]:=⟨x,_,hx,hbe0,rfl⟩;unfold fo at hbe0 hEB ⊢;generalize hn1:(fG (bs.take (t+1))).length=n1 at *;generalize (fG (bs.take t)).length=n0 at *;have a2':decide (x.base < fQ s.base (bs.take t))=false:=decide_eq_false (by omega);have hlw:=vr a4;refine sJ @hrm ?_
  have hz:decide ((0:Int)≠0)=false:=by decide
  intros;refine gr 18 32 ?_;refine sJ3 c177r2.eq_1 @hz @a2' ?_;refine .inr ⟨yl,rfl,?_⟩;refine iY.ghost (eL (List.perm_append_comm (l₁:=[_]))) ?_;refine(hy t t _ G1 L' (List.getElem?_range htl) (hgg.trans hg1) hEB (hmo _ _ _ _ hg1 hI') [_] []).mono ?_;rintro v h' ⟨G2,L3,rfl,hg2,hn2,hr⟩;rcases hr with⟨rfl,hr⟩ | ⟨rfl,hr⟩
  ·refine sI ?_;intros;refine gC ?_;refine dW (eL (List.perm_append_comm (l₂:=[_]))) ?_;intros;refine dT ?_;refine pP 33 37 (by decide) ?_;refine sJ2 c177r3.eq_1 @hlw ?_;intros;refine dT ?_;refine eC ⟨⟨t+1,G2,L3,_,⟨by omega,(hgg.trans hg1).trans hg2,hn2,hr⟩,(eJ @hn1),(eJ @a3),eE,eE,rfl,.cons _ J9⟩,?_⟩;refine sI ?_;omega
  ·refine sI ?_;intros;refine gC ?_;intros;refine dT ?_;refine ea (ee L3 rfl (List.sublist_append_left _ _) hn2 ?_);exact⟨(hgg.trans hg1).trans hg2,.inr ⟨t,htl,hr⟩⟩
 ·have htl:t=bs.length:=by omega
  subst htl;rw[take_length]at hget hbe ⊢;have hend:=hsc.end_;generalize getB s.bytes (((fG bs).length:Nat):Int)=q at *;obtain⟨x,nx,er⟩:=q;dsimp only at hbe hend ⊢;obtain⟨B,d,rfl,-⟩:=hbe;unfold fo;have hfin:Gle G G1∧(I bs.length G1 L'∨∃ i,i < bs.length∧Ix i G1 L'):=⟨hgg.trans hg1,.inl (hmo _ _ _ _ hg1 hI')⟩;refine sJ @hrm ?_;intros;refine gR 18 32 c177r2.eq_1 ?_
  refine gd (fun k1=>?_) (fun k1=>?_)
  ·refine sI ?_;intros;refine gC ?_;intros;refine dT ?_;exact ea (ee L' rfl (.cons _ J9) hn' hfin)
  ·have k1:er=0:=by simpa using k1
   have k2:decide (x.base < fQ s.base bs)=true:=decide_eq_true (by rcases hend with h | h;exact absurd k1 h;exact h)
   refine sJ @k2 ?_;intros;refine gC ?_;intros;refine dT ?_;exact ea (ee L' rfl (.cons _ J9) hn' hfin)
theorem rL(s:Sg)(cs:JU)(G:JT)(hs:SE G s cs)(hb:s.bytes.length≤1000000):
  FnD Tryz.prog 151 #[.agg cs.toArray] G (fun G' r=>∃ b,r=.func (.func 177) #[] #[.pointer (some ⟨b,0,none⟩)]∧kJ Tryz.prog 177 #[.pointer (some ⟨b,0,none⟩)] (List.range (fe s).length) (EB (fe s)) G'):=by
 obtain⟨A,c,rfl,hl,hi⟩:=hs;refine F151.fnD (by simp) (d7 ?_);unfold c151 fX;intros;refine gR 0 0 c151r0.eq_1 ?_;intro b1 hb1;intros;refine dT ?_;refine eI jy ?_;rintro h' ⟨G1,rfl,hg1,hc1⟩;have e0:=hc1 0 _ rfl;have e1:=hc1 1 _ rfl;rw[eS]at e0 e1;intros;refine gR 3 4 c151r1.eq_1 ?_;intros;refine rW ?_;exact⟨b1,rfl,uv s A c b1 G1 (SB.le hl hg1) hb e0 e1⟩
def xt(s:Sg)(G':JT)(L':JW)(r:Value):Prop:=∃ u zc,r=.tuple #[u,.int .i64 ((fY s:Nat):Int)]∧Cells (BE G') 10 (fe s) zc∧L'=[.row u 43 10 (fe s).length zc]
theorem oW(s:Sg)(cs:JU)(G:JT)(hs:SE G s cs)(hb:s.bytes.length≤1000000):FnO Tryz.prog 131 #[.agg cs.toArray] G [] (fun G' L' r=>xt s G' L' r):=by
 have hs0:=hs;obtain⟨A,c,rfl,hl,hi⟩:=hs;refine F131.fnO (by simp) dS (d7 ?_);unfold c131;unfold fX at hs0 ⊢;intros;refine gR 0 0 c131r0.eq_1 ?_;intro b1 hb1 b2 hb2 b3 hb3;intros;refine dT ?_;refine eI (eO [_,_] _) ?_;rintro h' ⟨G1,rfl,hg1,f1⟩;have e0:=f1 0 _ rfl;have e1:=f1 1 _ rfl;rw[eS]at e0 e1;intros;refine gR 6 7 c131r1.eq_1 ?_
 refine⟨_,⟨_,[.int .i64 s.base,.slice A s.bytes.length c],rfl,rfl,rfl,fun j u hu=>.g (f1 j u hu)⟩,?_⟩;refine sI ?_;refine(rL s _ G1 (SE.le hg1 hs0) hb _ _).mono ?_;rintro r h' ⟨G2,rfl,hg2,b,rfl,hit⟩;obtain⟨rr,hsc⟩:=fx s;have hSR:∀ G' u zc,Cells (BE G') 10 (fe s) zc→xt s G' [.row u 43 10 (fe s).length zc] (.tuple #[u,.int .i64 (((fG (fe s)).length:Nat):Int)]):=fun G' u zc h=>⟨u,zc,rfl,h,rfl⟩
 generalize fe s=bs at hit hsc hSR;have hlen:=hsc.len;refine sI ?_;intros;refine dT ?_;refine dW (ew none 43 10) ?_;refine r9 (α:=Nat) (fun k G' L'=>∃ u zc,L'=[.row u 43 10 (bs.take k).length zc,.blk b3 [.int .i64 (((fG (bs.take k)).length:Nat):Int)],.blk b2 [u]]∧Cells (BE G') 10 (bs.take k) zc) (fun _ _ _ _=>False) (eE) F177.enters (dV (ec (ec dS)))
  (fun i G G' L hg ⟨u,zc,h1,h2⟩=>⟨u,zc,h1,eU h2 fun _ _ h=>BE.le hg h⟩) hit (fun G x args h=>by obtain⟨y,_,_,_,rfl⟩:=h;rfl) ⟨_,[],rfl,.nil⟩ ?_ ?_ ?_
 ·rintro yl k i args G' L' hki hgl ⟨x,cs,hx,hbe,rfl⟩ ⟨u,zc,rfl,hzc⟩ _;obtain⟨rfl,hkl⟩:=pc hki;have hbe0:=hbe;obtain⟨B,d,rfl,-⟩:=hbe;unfold fo at hbe0 ⊢;refine sI ?_;intros;refine gR 0 0 c131r2.eq_1 ?_;intros;refine gR 0 0 c131r3.eq_1 ?_;intro bb;refine gv (sq ?_);have htk:bs.take (i+1)=bs.take i++[x]:=by rw[List.take_add_one,hx];rfl
  have hkl2:(bs.take i).length≤bs.length:=by rw[List.length_take];omega
  intros;refine gR 10 15 c131r4.eq_1 ?_;refine⟨_,dZ (.tail _ (.tail _ (.tail _ (.head _)))) rfl,?_⟩;refine sI ?_;intro bk hbk;refine ts (L1:=[_]) (L2:=[_,_]) (E:=BE G') (x:=x) rfl hbe0 rfl (by simp[Value.oneCell']) hzc (by omega) (by omega) fun A' c' zc' hzc'=>?_
  rw[← htk]at hzc' ⊢;refine sI ?_;refine ei [_,_,_,_] [] rfl (by simp) ⟨rfl,rfl⟩ ?_;refine sI ?_;refine ei [_,_,_] [_] rfl (by simp) ⟨rfl,rfl⟩ ?_;refine sI ?_;intros;refine dT ?_;refine gv (qO _ (.cons _ (.cons _ J9)) (dV (ec (ec dS))) ⟨_,zc',rfl,hzc'⟩)
 ·rintro G' L' dd hgl ⟨u,zc,rfl,hzc⟩ _;rw[List.length_range]at hzc ⊢;rw[take_length]at hzc ⊢;intros;refine dT ?_;refine eI (gG (.head _)) ?_;rintro h' ⟨rfl,A2,c2,rfl,-,-⟩;refine eI (ET (.cons _ J9)) ?_;rintro h' ⟨rfl,hne⟩;intros;refine dT ?_;refine pQ _ J9 (by decide) ?_;refine sJ c131r5.eq_1 ?_;refine⟨_,dZ (.tail _ (.tail _ (.head _))) rfl,?_⟩;refine sI ?_
  refine⟨_,dZ (.tail _ (.head _)) rfl,?_⟩;refine sI ?_;refine ei [_,_] [] rfl (by simp) ⟨rfl,rfl⟩ ?_;refine sI ?_;refine ei [_] [_] rfl (by simp) ⟨rfl,rfl⟩ ?_;refine sI ?_;intros;refine dT ?_;refine ea (ee (out:=[.slice A2 bs.length c2,.int .i64 (((fG bs).length:Nat):Int)]) _ ?_ (.cons_cons _ Ka) (dV dS) (hSR G' _ _ hzc));simp[o131,mr,Kx.getB,uJ,ldC,Env.set,hne]
 ·rintro ex i G' L' d _ _ h;exact h.elim
theorem oL{bs:J4}{k:Nat}{x:Batch}(nx:Int)(hx:bs[k]?=some x):fQ nx (bs.take (k+1))=x.last+1:=by
 rw[List.take_add_one,hx];show fQ nx (bs.take k++[x])=_;rw[lL];rfl
theorem wG(s:Sg)(cs:JU)(G:JT)(hs:SE G s cs)(hb:s.bytes.length≤1000000):FnS Tryz.prog 114 #[.agg cs.toArray] G (.int .i64 (j8 s)):=by
 have hs0:=hs;obtain⟨A,c,rfl,hl,hi⟩:=hs;refine F114.fnS (by simp) (d7 ?_);unfold c114;unfold fX at hs0 ⊢;intros;refine gR 0 0 c114r0.eq_1 ?_;intro b1 hb1;intros;refine dT ?_;refine eI jy ?_;rintro h' ⟨G1,rfl,hg1,f1⟩;have e0:=f1 0 _ rfl;rw[eS]at e0;intros;refine gR 5 7 c114r1.eq_1 ?_;refine⟨_,⟨_,rfl,.g e0⟩,?_⟩;refine sI ?_;intro b3 hb3;refine ei [] [] rfl (by simp) ⟨rfl,rfl⟩ ?_;refine sI ?_
 intros;refine gR 7 8 c114r2.eq_1 ?_;refine⟨_,⟨_,[.int .i64 s.base,.slice A s.bytes.length c],rfl,rfl,rfl,fun j u hu=>.g (f1 j u hu)⟩,?_⟩;refine sI ?_;refine(rL s _ G1 (SE.le hg1 hs0) hb _ _).mono ?_;rintro r h' ⟨G2,rfl,hg2,b,rfl,hit⟩;obtain⟨rr,hsc⟩:=fx s;have hend:j8 s=fQ s.base (fe s):=rfl;generalize fe s=bs at hit hsc hend;refine sI ?_;intros;refine dT ?_
 refine r9 (α:=Nat) (fun k G' L'=>L'=[.blk b3 [.int .i64 (fQ s.base (bs.take k))]]) (fun _ _ _ _=>False) (eE) F177.enters (ec dS)
  (fun i G G' L hg h=>h) hit (fun G x args h=>by obtain⟨y,_,_,_,rfl⟩:=h;rfl) rfl ?_ ?_ ?_
 ·rintro yl k i args G' L' hki hgl ⟨x,cs,hx,hbe,rfl⟩ rfl _;obtain⟨rfl,hkl⟩:=pc hki;obtain⟨B,d,rfl,-⟩:=hbe;have hlw:=vr (hsc.ok x (mem_of_getElem? hx));unfold fo;refine sI ?_;intros;refine gR 0 0 c114r3.eq_1 ?_;intro bb;refine gv (sq ?_);intros;refine gR2 12 14 c114r4.eq_1 @hlw ?_;refine ei [_] [] rfl (by simp) ⟨rfl,rfl⟩ ?_;refine sI ?_;intros;refine dT ?_
  refine gv (qO [.blk b3 [.int .i64 (x.last+1)]] (.cons _ J9) (ec dS) ?_);rw[oL s.base hx]
 ·rintro G' L' dd hgl rfl _;rw[List.length_range,take_length,← hend];intros;refine gR 14 15 c114r5.eq_1 ?_;refine⟨_,dZ (.head _) rfl,?_⟩;refine sI ?_;intros;refine rV ?_;simp only[push_cast,Nat.reduceBEq]
 ·rintro ex i G' L' d _ _ h;exact h.elim
end Go.Proofs.YtpmofpekcbghnaaGreat
namespace Go.Proofs.YtpmofpekcbghnaaGreat
open Go Go.Kx Go.RowKit
open List (getElem?_eq_getElem mem_of_getElem? length_append take_length append_nil)
theorem vC(W:World):ia Tryz.prog W 120 (SE (pm W)):=fun H enc fuel cs x hx=>by
 obtain⟨hl,hf⟩:=iX Tryz.underlying120 (by kernel_rfl) (by kernel_rfl) hx;obtain⟨v0,_,_,c0,t0⟩:=hf 0 _ rfl;obtain⟨v1,_,_,c1,t1⟩:=hf 1 _ rfl;obtain⟨n0,e0,w0⟩:=(fU Tryz.underlying3).at_ t0;obtain⟨n1,A,c,e1,w1⟩:=(rq W).at_ t1;cases e0;cases e1;refine⟨⟨n0,n1⟩,A,c,?_,⟨A,c,rfl,w1⟩,jz w0⟩
 match cs,hl with
 | [_,_],_=>cases c0;cases c1;rfl
end Go.Proofs.YtpmofpekcbghnaaGreat
namespace Go.Proofs.YtpmofpekcbghnaaGreat
open Go Go.Kx
open List (getElem?_eq_getElem mem_of_getElem? length_append take_length append_nil)
theorem F172:Fun Tryz.prog 172 13 v172 c172 o172:=Fun.mkA Tryz.func172 Tryz.ntmps172
theorem F155:Fun Tryz.prog 155 9 v155 c155 o155:=Fun.mkA Tryz.func155 Tryz.ntmps155
theorem F156:Fun Tryz.prog 156 9 v156 c156 o156:=Fun.mkA Tryz.func156 Tryz.ntmps156
theorem F158:Fun Tryz.prog 158 10 v158 c158 o158:=Fun.mkA Tryz.func158 Tryz.ntmps158
theorem F181:Fun Tryz.prog 181 27 v181 c181 o181:=Fun.mkA Tryz.func181 Tryz.ntmps181
theorem F157:Fun Tryz.prog 157 36 v157 c157 o157:=Fun.mkA Tryz.func157 Tryz.ntmps157
theorem pt{α:Type}{P:Program}{f:FuncId}{args:Array Value}{G:JT}{E:α→JU→Prop}{et sz:Nat}{zs:List α}(hf:FnO P f args G [] (fun _ L' r=>wU E et sz zs L' r)):
  FnO P f args G [] (fun _ L' r=>∃ A c ys,r=.slice A zs.length c∧(zs.length≤c∧c≤maxLen)∧Cells E sz zs ys∧L'=[.row r et sz zs.length ys]):=fun L D =>
 (hf L D).gx fun v h' ⟨G',L',he,hg,ys,hc,hL⟩=>by
  subst he hL;exact(gG (.head _)).mono fun h' ⟨h1,A,c,h2,h3,h4⟩=>⟨G',_,h1,hg,A,c,ys,h2,⟨h3,h4⟩,hc,rfl⟩
def jC:Sg:=⟨0,[]⟩
def xu(s:Sg)(L':JW)(r:Value):Prop:=∃ u zc,r=.agg #[.int .i64 s.base,u]∧L'=[.row u 5 1 s.bytes.length zc]∧Cells UE 1 s.bytes zc
def rK(p:Sg × Int)(L':JW)(r:Value):Prop:=∃ u zc,r=.tuple #[.agg #[.int .i64 p.1.base,u],.int .i64 p.2]∧L'=[.row u 5 1 p.1.bytes.length zc]∧Cells UE 1 p.1.bytes zc
def nN(n:Int):Bool:=decide (1≤n) && decide (n≤4096)
theorem sO(n:Int)(G:JT):FnS Tryz.prog 155 #[.int .i64 n] G (.bool (inO n)):=by
 refine F155.fnS (by simp) (d7 ?_);unfold c155;intros;refine gR 0 0 c155r0.eq_1 ?_;intros;refine gR 3 9 c155r1.eq_1 ?_;refine gdD (fun h=>?_) (fun h=>?_)
 ·refine sI ?_;intros;refine rW ?_;rw[inO,decide_eq_true h,Bool.true_and]
 ·refine sI ?_;intros;refine rW ?_;rw[inO,decide_eq_false h,Bool.false_and]
theorem oe(n:Int)(G:JT):FnS Tryz.prog 156 #[.int .i64 n] G (.bool (nN n)):=by
 refine F156.fnS (by simp) (d7 ?_);unfold c156;intros;refine gR 0 0 c156r0.eq_1 ?_;intros;refine gR 3 9 c156r1.eq_1 ?_;refine gdD (fun h=>?_) (fun h=>?_)
 ·refine sI ?_;intros;refine rW ?_;rw[nN,decide_eq_true h,Bool.true_and]
 ·refine sI ?_;intros;refine rW ?_;rw[nN,decide_eq_false h,Bool.false_and]
def uO(base:Int):Sg × Int:=if inO base=true then(⟨base,[]⟩,0)else(jC,1)
theorem Fm(base:Int)(G:JT):FnO Tryz.prog 158 #[.int .i64 base] G [] (fun _ L' r=>rK (uO base) L' r):=by
 refine F158.fnO (by simp) dS (d7 ?_);unfold c158;intros;refine gR 0 0 c158r0.eq_1 ?_;intros;refine gR 4 6 c158r1.eq_1 ?_;refine fK (sO _ _ _ _) ?_;intros;refine gC ?_;refine gb (fun h=>?_) (fun h=>?_)
 ·have h:¬ inO base=true:=by simpa using h
  intros;refine gR 7 8 c158r2.eq_1 ?_;intros;refine dT ?_;refine dW (ew none 5 1) ?_;refine ea (ee _ rfl (.cons_cons _ Ka) (dV dS) ?_);rw[uO,if_neg h];exact⟨_,[],rfl,rfl,.nil⟩
 ·have h:inO base=true:=by simpa using h
  intros;refine gN ?_;intros;refine gR 8 10 c158r3.eq_1 ?_;intros;refine dT ?_;refine dW (ew none 5 1) ?_;refine ea (ee _ rfl (.cons_cons _ Ka) (dV dS) ?_);rw[uO,if_pos h];exact⟨_,[],rfl,rfl,.nil⟩
theorem BW(n:Nat)(G:JT)(hn:n≤1000000):FnO Tryz.prog 181 #[.slice none 0 0,.int .i64 (n:Int)] G [] (fun _ L' r=>pC [] L' r):=by
 refine F181.fnO (by simp) dS (d7 ?_);unfold c181;have w1:IntKind.i64.wrap ((n:Int) - IntKind.i64.wrap (0 - 0))=(n:Int):=by simp only[IntKind.wrap_i64];omega
 have h0:decide ((n:Int) < 0)=false:=decide_eq_false (by omega);intros;refine gR 0 0 c181r0.eq_1 ?_;intros;refine gR2 5 6 c181r1.eq_1 @h0 ?_;intros;refine gC ?_;intros;refine gN ?_;intros;refine gR2 8 15 c181r2.eq_1 @w1 ?_;intros;refine gR 15 16 c181r3.eq_1 ?_;intros;refine dW (ew none 5 1) ?_
 refine eK (fun e h=>∃ A c m zc Lh,e 0=.slice A 0 c∧h=⟨G,Lh,[]⟩∧[Kx.Item.row (.slice A m c) 5 1 m zc].Sublist Lh) ?_ ?_
 ·intros;refine gC ?_;refine gb (fun h1=>?_) (fun h1=>?_)
  ·have h1:=Kb h1;intros;refine gR 17 26 c181r4.eq_1 ?_;refine⟨by omega,?_⟩;refine⟨n,⟨rfl,rfl⟩,⟨by omega,by omega,by unfold maxLen;omega⟩,?_⟩;intro g c zs hg;refine sI ?_;refine⟨by omega,?_⟩;refine sI ?_;intros;refine dT ?_;exact eC ⟨_,c,n,zs,_,rfl,rfl,.cons_cons _ Ka⟩
  ·intros;refine dT ?_;exact eC ⟨none,0,0,[],_,eE,rfl,List.Sublist.refl _⟩
 rintro e h ⟨A,c,m,zc,Lh,e0,rfl,hsub⟩;refine dX [0] ?_;refine sJ @e0 ?_;intros;intros;try refine dU ?_
 refine dW (dY hsub) ?_;refine dW (ny (L1:=[]) (L2:=[]) (m:=0) (Nat.zero_le _)) ?_;intros;refine gR 26 27 c181r5.eq_1 ?_;intros;refine dT ?_;refine ea (ee _ rfl J9 (dV dS) ?_);refine⟨[],.nil,?_⟩;simp;rfl
theorem s8(s:Sg)(n:Nat)(cs:JU)(G:JT)(hs:SE G s cs)(hb:s.bytes.length≤1000000)(hn:n≤s.bytes.length):
  FnO Tryz.prog 172 #[.agg cs.toArray,.int .i64 (n:Int)] G [] (fun _ L' r=>xu ⟨s.base,s.bytes.take n⟩ L' r):=by
 obtain⟨A,c,rfl,hl,hi⟩:=hs;refine F172.fnO (by simp) dS (d7 ?_);have hpre:=SlV.pre n hl hn;obtain⟨A0,c0,he,h1,h2,h3⟩:=hl;cases he;unfold c172 fX;intros;refine gR 0 0 c172r0.eq_1 ?_;intros;refine dT ?_;refine zt _ J9 (by decide) ?_;refine sJ c172r1.eq_1 ?_;refine⟨by omega,?_⟩;refine(pt (ph _ _ G hpre (by simp;omega)) _ _).mono ?_;rintro r h' ⟨G1,L',rfl,hg1,A1,c1,ys,rfl,-,hys,rfl⟩
 refine⟨ed hg1 (.cons _ J9),?_⟩;refine sI ?_;refine sJ c172r2.eq_1 ?_;intros;refine dT ?_;refine ea (ee _ rfl (.cons_cons _ Ka) (dV dS) ?_);exact⟨_,ys,rfl,rfl,hys⟩
def EBs(G:JT)(l:J3)(cs:JU):Prop:=∃ v,cs=[v]∧SB G v l
theorem rh{ll:List (J3)}{k:Nat}{l:J3}(h:ll[k]?=some l):(ll.take (k+1)).flatten=(ll.take k).flatten++l:=by
 rw[List.take_add_one,h];simp
theorem xD(ll:List (J3))(k:Nat):(ll.take k).flatten.length≤ll.flatten.length:=by
 conv=>rhs;rw[← List.take_append_drop k ll,List.flatten_append,length_append]
 omega
theorem xc(ll:List (J3))(v:Value)(G:JT)(hl:SlV G (EBs G) 1 v ll)(hb:ll.flatten.length≤1000000):FnO Tryz.prog 157 #[v] G [] (fun _ L' r=>pC ll.flatten L' r):=by
 obtain⟨A,c,rfl,hc,hm,hA⟩:=hl;refine F157.fnO (by simp) dS (d7 ?_);unfold c157;intros;refine gR 0 0 c157r0.eq_1 ?_;intros;refine gR 0 0 c157r1.eq_1 ?_;intros;refine gR 0 0 c157r2.eq_1 ?_;intros;intros;try refine dU ?_
 refine eK (fun e h=>e 3=.int .i64 ((ll.flatten.length:Nat):Int)∧e 0=.slice A ll.length c∧h=⟨G,[],[]⟩) ?_ ?_
 ·intros;refine dT ?_;refine ej (fun e h=>∃ k:Nat,k≤ll.length∧e 11=.int .i64 k∧e 10=.int .i64 ll.length∧e 9=.slice A ll.length c∧e 0=.slice A ll.length c∧e 3=.int .i64 (((ll.take k).flatten.length:Nat):Int)∧h=⟨G,[],[]⟩) (fun e h=>ll.length - iv (e 11)) ?_ ?_
  ·exact⟨0,Nat.zero_le _,eE,eE,eE,eE,rfl,rfl⟩
  rintro e h ⟨k,hk,e11,e10,e9,e0,e3,rfl⟩;refine dX [0,3,9,10,11] ?_;refine sJ5 @e0 @e3 @e9 @e10 @e11 ?_;intros;refine gR 0 0 c157r3.eq_1 ?_;intros;refine gC ?_;refine gb (fun ht=>?_) (fun ht=>?_)
  ·have ht:k < ll.length:=by have:=Kb ht;omega
   have hw:=eY k c (by omega) hm;obtain⟨x,hx⟩:∃ x,ll[k]?=some x:=⟨ll[k],getElem?_eq_getElem (by omega)⟩;have h1:=rh hx;have h2:=xD ll (k+1);have h3:(ll.take (k+1)).flatten.length=(ll.take k).flatten.length+x.length:=by rw[h1,length_append]
   generalize hn1:(ll.take (k+1)).flatten.length=n1 at *;generalize (ll.take k).flatten.length=n0 at *;have hw2:IntKind.i64.wrap ((n0:Int)+(x.length:Int))=(n1:Int):=by rw[eh] <;> omega
   have hneg:decide ((n1:Int) < 0)=false:=decide_eq_false (by omega);intros;refine gN ?_;intros;refine gR 13 15 c157r4.eq_1 ?_;refine hA.x_l1 hx rfl rfl ?_;rintro a1 ha1 u ⟨u',hu,B,d,rfl,-⟩;cases hu;refine sI ?_;intros;refine gR2 15 19 c157r5.eq_1 @hw2 ?_;intros;refine gR2 19 20 c157r6.eq_1 @hneg ?_;intros;refine gC ?_;intros;refine gN ?_;intros;refine gR2 22 23 c157r7.eq_1 @hw ?_
   intros;refine dT ?_;refine eC ⟨⟨k+1,by omega,eE,eE,eE,eE,(eJ @hn1),rfl⟩,?_⟩;refine sI ?_;omega
  ·have ht:k=ll.length:=by have:=Kc ht;omega
   subst ht;have htk:ll.take ll.length=ll:=take_length;refine eg ?_;refine sI ?_;intros;refine gN ?_;exact eC ⟨(eJ @htk),eE,rfl⟩
 rintro e h ⟨e3,e0,rfl⟩;refine dX [0,3] ?_;refine sJ2 @e0 @e3 ?_;intros;intros;refine gR 23 25 c157r8.eq_1 ?_;refine(pt (BW ll.flatten.length G hb) _ []).mono ?_;rintro r h' ⟨G1,L',rfl,hg1,A1,c1,ys,rfl,-,hys,rfl⟩;refine sI ?_;intros;refine gR 0 0 c157r9.eq_1 ?_;intros;have hA1:=hA.le hg1 (E':=EBs G1) fun _ _ ⟨u,h1,h2⟩=>⟨u,h1,SB.le h2 hg1⟩
 refine eK (fun e h=>∃ u zc,Cells UE 1 ll.flatten zc∧e 6=u∧h=⟨G1,[.row u 5 1 ll.flatten.length zc],[]⟩) ?_ ?_
 ·intros;refine dT ?_;refine ej (fun e h=>∃ (k:Nat) (u:Value) (zc:JU),(k≤ll.length∧Cells UE 1 (ll.take k).flatten zc)∧e 27=.int .i64 k∧e 26=.int .i64 ll.length∧e 25=.slice A ll.length c∧e 6=u∧h=⟨G1,[.row u 5 1 (ll.take k).flatten.length zc],[]⟩) (fun e h=>ll.length - iv (e 27)) ?_ ?_
  ·exact⟨0,_,ys,⟨Nat.zero_le _,hys⟩,eE,eE,eE,eE,rfl⟩
  rintro e h ⟨k,u,zc,⟨hk,hzc⟩,e27,e26,e25,e6,rfl⟩;refine dX [6,25,26,27] ?_;refine sJ4 @e6 @e25 @e26 @e27 ?_;intros;refine gR 0 0 c157r10.eq_1 ?_;intros;refine gC ?_;refine gb (fun ht=>?_) (fun ht=>?_)
  ·have ht:k < ll.length:=by have:=Kb ht;omega
   have hw:=eY k c (by omega) hm;obtain⟨x,hx⟩:∃ x,ll[k]?=some x:=⟨ll[k],getElem?_eq_getElem (by omega)⟩;have h1:=rh hx;have h2:=xD ll (k+1);have h3:(ll.take (k+1)).flatten.length=(ll.take k).flatten.length+x.length:=by rw[h1,length_append]
   intros;refine gN ?_;intros;refine gR 29 31 c157r11.eq_1 ?_;refine hA1.x_l1 hx rfl rfl ?_;rintro a1 ha1 u1 ⟨u',hu,hsb⟩;cases hu;refine sI ?_;intros;refine gR 31 34 c157r12.eq_1 ?_;refine ki (L1:=[]) (.inl rfl) hsb rfl UE1 (by unfold maxLen;omega) fun ys1 A2 c2 hc2=>?_
   have hh:=hzc.app hc2;rw[← h1]at hh;rw[← h3];refine sI ?_;intros;refine gN ?_;intros;refine gR2 34 35 c157r13.eq_1 @hw ?_;intros;refine dT ?_;refine eC ⟨⟨k+1,_,_,⟨by omega,hh⟩,eE,eE,eE,eE,rfl⟩,?_⟩;refine sI ?_;omega
  ·have ht:k=ll.length:=by have:=Kc ht;omega
   subst ht;rw[take_length]at hzc ⊢;refine eg ?_;refine sI ?_;intros;refine gN ?_;exact eC ⟨u,zc,hzc,eE,rfl⟩
 rintro e h ⟨u,zc,hzc,e6,rfl⟩;refine dX [6] ?_;refine sJ @e6 ?_;intros;intros;refine gR 35 36 c157r14.eq_1 ?_;intros;refine dT ?_;refine ea (ee _ rfl J9 (dV dS) ?_);exact⟨zc,hzc,rfl⟩
theorem F121:Fun Tryz.prog 121 69 v121 c121 o121:=Fun.mkA Tryz.func121 Tryz.ntmps121
def jB(s:Sg)(x:Batch)(limit:Int):Sg × Int :=
 if fY s=s.bytes.length∧inO s.base=true∧nN limit=true then
  if fF x=0 then
   if x.base < j8 s then(jC,71)
   else if limit < ((s.bytes.length+(ek x).length:Nat):Int)then(jC,70)
   else(⟨s.base,s.bytes++ek x⟩,0)
  else(jC,fF x)
 else(jC,1)
theorem Ft{s:Sg}{x:Batch}{limit:Int}(h:¬ (fY s=s.bytes.length∧inO s.base=true∧nN limit=true)):jB s x limit=(jC,1):=if_neg h
theorem Ev{s:Sg}{x:Batch}{limit:Int}(h:fY s=s.bytes.length∧inO s.base=true∧nN limit=true)(h1:¬ fF x=0):jB s x limit=(jC,fF x):=by rw[jB,if_pos h,if_neg h1]
theorem EP{s:Sg}{x:Batch}{limit:Int}(h:fY s=s.bytes.length∧inO s.base=true∧nN limit=true)(h1:fF x=0)(h2:x.base < j8 s):jB s x limit=(jC,71):=by rw[jB,if_pos h,if_pos h1,if_pos h2]
theorem AS{s:Sg}{x:Batch}{limit:Int}(h:fY s=s.bytes.length∧inO s.base=true∧nN limit=true)(h1:fF x=0)(h2:¬ x.base < j8 s)(h3:limit < ((s.bytes.length+(ek x).length:Nat):Int)):jB s x limit=(jC,70):=by rw[jB,if_pos h,if_pos h1,if_neg h2,if_pos h3]
theorem vM{s:Sg}{x:Batch}{limit:Int}(h:fY s=s.bytes.length∧inO s.base=true∧nN limit=true)(h1:fF x=0)(h2:¬ x.base < j8 s)(h3:¬ limit < ((s.bytes.length+(ek x).length:Nat):Int)):jB s x limit=(⟨s.base,s.bytes++ek x⟩,0):=by rw[jB,if_pos h,if_pos h1,if_neg h2,if_neg h3]
theorem lp(s:Sg):fY s≤s.bytes.length:=by
 obtain⟨r,h⟩:=fx s;exact h.len.2
theorem qD(s:Sg)(x:Batch)(limit:Int)(cs ds:JU)(G:JT)(hs:SE G s cs)(hb:s.bytes.length≤100000)(hx:BE G x ds)(hi:I64 limit):
  FnO Tryz.prog 121 #[.agg cs.toArray,.agg ds.toArray,.int .i64 limit] G [] (fun _ L' r=>rK (jB s x limit) L' r):=by
 have hscan:=oW s cs G hs (by omega);have hput:=oH x ds G hx;have hs0:=hs;have hx0:=hx;obtain⟨A,c,rfl,hl,hib⟩:=hs;obtain⟨B,d,rfl,-⟩:=hx;have hgl:=lp s;refine F121.fnO (by simp) dS (d7 ?_);unfold c121;unfold fX at hscan hs0 ⊢;unfold fo at hput hx0 ⊢;intros;refine gR 0 0 c121r0.eq_1 ?_;intros;refine gR 12 17 c121r1.eq_1 ?_;refine(hscan _ _).mono ?_;rintro r h' ⟨G1,L',rfl,hg1,u,zc,rfl,-,rfl⟩
 refine sI ?_;intros;refine dW (dY (.cons _ J9)) ?_;intros;try refine dU ?_
 have hbad:∀ (fr:J0) (e:Env) (X:JW) (Y:JU),¬ (fY s=s.bytes.length∧inO s.base=true∧nN limit=true)→go none Tryz.prog 69 v121.1 v121.2 (fB o121 fun v h=>rK (jB s x limit) h.L v) (Td.s ((SC.reg false c121r3).seq .ret) :: fr) e ⟨G1,.reg 6 [.int .i64 0,.slice none 0 0] :: X,[]⟩:=fun fr e X Y hn=>by
  intros;refine gR 33 34 c121r3.eq_1 ?_;intros;refine dT ?_;refine dW (ew none 5 1) ?_;refine ea (ee _ rfl (.cons_cons _ Ka) (dV dS) ?_);rw[Ft hn];exact⟨_,[],rfl,rfl,.nil⟩
 intros;refine gR 17 32 c121r2.eq_1 ?_;refine gd (fun k1=>?_) (fun k1=>?_)
 ·refine sI ?_;intros;refine gC ?_;exact hbad _ _ _ [] fun h=>Kb k1 (by rw[h.1])
 have k1:fY s=s.bytes.length:=by have:=Kc k1;omega
 refine sI ?_;refine fK (sO _ _ _ _) ?_;refine gd (fun k2=>?_) (fun k2=>?_)
 ·refine sI ?_;intros;refine gC ?_;exact hbad _ _ _ [] fun h=>by rw[h.2.1]at k2;cases k2
 have k2:inO s.base=true:=by simpa using k2
 refine sI ?_;refine fK (oe _ _ _ _) ?_;intros;refine gC ?_;refine gb (fun k3=>?_) (fun k3=>?_)
 ·exact hbad _ _ _ [] fun h=>by rw[h.2.2]at k3;cases k3
 have k3:nN limit=true:=by simpa using k3
 clear hbad;have hok:fY s=s.bytes.length∧inO s.base=true∧nN limit=true:=⟨k1,k2,k3⟩;intros;refine gN ?_;have hput:=oH x _ G1 (BE.le hg1 hx0);intros;refine gR 34 39 c121r4.eq_1 ?_;refine(hput _ _).mono ?_;rintro r h' ⟨G2,L',rfl,hg2,w,rfl,ys,hys,rfl⟩;refine sI ?_;intros;try refine dU ?_
 refine eI (ef [] _ (by decide) hys) ?_;rintro h' ⟨G3,rfl,hg3,hv3⟩;have hg03:=hg1.trans (hg2.trans hg3);by_cases he:fF x=0;rotate_left
 ·rw[xn he]at hv3 ⊢;intros;refine gR 40 42 c121r5.eq_1 ?_;intros;refine gC ?_;refine gb (fun k4=>?_) (fun k4=>absurd (Kc k4) (by simpa using he));intros;refine gR 42 44 c121r6.eq_1 ?_;intros;refine dT ?_;refine dW (ew none 5 1) ?_;refine ea (ee _ rfl (.cons_cons _ Ka) (dV dS) ?_);rw[Ev hok he];exact⟨_,[],rfl,rfl,.nil⟩
 rw[wo he]at hv3 ⊢;have hv3:SB G3 w (ek x):=hv3;have hbl:=(jP he).2;have hz:decide ((0:Int)≠0)=false:=by decide
 intros;refine gR2 40 42 c121r5.eq_1 @hz ?_;intros;refine gC ?_;intros;refine gN ?_;intros;refine dT ?_;refine ly _ J9 (by decide) ?_;refine sJ c121r7.eq_1 ?_;refine fK (wG s _ G3 (SE.le hg03 hs0) (by omega) _ _) ?_;intros;refine gC ?_;refine gbD (fun k5=>?_) (fun k5=>?_)
 ·intros;refine gR 50 51 c121r8.eq_1 ?_;intros;refine dT ?_;refine dW (ew none 5 1) ?_;refine ea (ee _ rfl (.cons_cons _ Ka) (dV dS) ?_);rw[EP hok he k5];exact⟨_,[],rfl,rfl,.nil⟩
 have hw:IntKind.i64.wrap ((s.bytes.length:Int)+((ek x).length:Int))=((s.bytes.length+(ek x).length:Nat):Int):=by rw[eh] <;> omega
 have hsb3:=hv3;obtain⟨A3,c3,rfl,-⟩:=hv3;intros;refine gR2 53 60 c121r9.eq_1 @hw ?_;intros;refine gC ?_;refine gbD (fun k6=>?_) (fun k6=>?_)
 ·intros;refine gR 60 61 c121r10.eq_1 ?_;intros;refine dT ?_;refine dW (ew none 5 1) ?_;refine ea (ee _ rfl (.cons_cons _ Ka) (dV dS) ?_);rw[AS hok he k5 k6];exact⟨_,[],rfl,rfl,.nil⟩
 have h0:=vM hok he k5 k6;have hll:Cells (EBs G3) 1 [s.bytes,ek x] [.slice A s.bytes.length c,.slice A3 (ek x).length c3]:=.cons (cs:=[_]) ⟨_,rfl,SB.le hl hg03⟩ rfl (.one ⟨_,rfl,hsb3⟩ rfl);intros;refine gN ?_;intros;refine dT ?_;refine zt _ J9 (by decide) ?_;refine sJ c121r11.eq_1 ?_;intro bk hbk;refine⟨ed Kd (.cons _ J9),?_⟩;refine fq F157.enters (ef [] _ (by decide) hll) ?_
 rintro h' ⟨G5,rfl,hg5,hv5⟩;refine(pt (xc [s.bytes,ek x] _ G5 (hv5.le (.refl _) fun _ _ ⟨v,h1,h2⟩=>⟨v,h1,SB.le h2 hg5⟩) (by simp;omega)) _ _).mono ?_;rintro r h' ⟨G6,L',rfl,hg6,A6,c6,zc6,rfl,-,hzc6,rfl⟩;have hfl:[s.bytes,ek x].flatten=s.bytes++ek x:=by simp
 rw[hfl]at hzc6 ⊢;refine⟨ed (hg5.trans hg6) (.cons _ J9),?_⟩;refine sI ?_;refine sJ c121r12.eq_1 ?_;intros;refine dT ?_;refine ea (ee _ rfl (.cons_cons _ Ka) (dV dS) ?_);rw[h0];exact⟨_,zc6,rfl,rfl,hzc6⟩
theorem F123:Fun Tryz.prog 123 44 v123 c123 o123:=Fun.mkA Tryz.func123 Tryz.ntmps123
theorem F143:Fun Tryz.prog 143 19 v143 c143 o143:=Fun.mkA Tryz.func143 Tryz.ntmps143
theorem F190:Fun Tryz.prog 190 20 v190 c190 o190:=Fun.mkA Tryz.func190 Tryz.ntmps190
def Gi(p:Sg × Int)(G:JT)(r:Value):Prop:=∃ A c,r=.tuple #[.agg #[.int .i64 p.1.base,.slice A p.1.bytes.length c],.int .i64 p.2]∧SB G (.slice A p.1.bytes.length c) p.1.bytes
theorem zm{P:Program}{f:FuncId}{args:Array Value}{G:JT}{p:Sg × Int}(hf:FnO P f args G [] (fun _ L' r=>rK p L' r)):
  FnO P f args G [] (fun _ L' r=>∃ A c zc,r=.tuple #[.agg #[.int .i64 p.1.base,.slice A p.1.bytes.length c],.int .i64 p.2]∧(p.1.bytes.length≤c∧c≤maxLen)∧L'=[.row (.slice A p.1.bytes.length c) 5 1 p.1.bytes.length zc]∧Cells UE 1 p.1.bytes zc):=fun L D =>
 (hf L D).gx fun v h' ⟨G',L',he,hg,u,zc,h1,h2,h3⟩=>by
  subst he h2;refine(gG (.head _)).mono fun h' ⟨e1,A,c,e2,e3,e4⟩=>?_
  subst e2;exact⟨G',_,e1,hg,A,c,zc,h1,⟨e3,e4⟩,rfl,h3⟩
theorem lS{P:Program}{f:FuncId}{args:Array Value}{G:JT}{p:Sg × Int}(hf:FnO P f args G [] (fun _ L' r=>rK p L' r)):FnD P f args G (Gi p) :=
 FnO.fnD (L1:=[]) (zm hf) fun G' L' v ⟨A,c,zc,h1,_,h2,h3⟩ _ L D=>by
  subst h2;exact(kl (by decide) h3).mono fun h' ⟨G2,e1,e2,e3⟩=>⟨G2,e1,e2,A,c,h1,e3⟩
theorem o5{P:Program}{f:FuncId}{args:Array Value}{G:JT}{s:Sg}(hf:FnO P f args G [] (fun _ L' r=>xu s L' r)):
  FnO P f args G [] (fun _ L' r=>∃ A c zc,r=.agg #[.int .i64 s.base,.slice A s.bytes.length c]∧(s.bytes.length≤c∧c≤maxLen)∧L'=[.row (.slice A s.bytes.length c) 5 1 s.bytes.length zc]∧Cells UE 1 s.bytes zc):=fun L D =>
 (hf L D).gx fun v h' ⟨G',L',he,hg,u,zc,h1,h2,h3⟩=>by
  subst he h2;refine(gG (.head _)).mono fun h' ⟨e1,A,c,e2,e3,e4⟩=>?_
  subst e2;exact⟨G',_,e1,hg,A,c,zc,h1,⟨e3,e4⟩,rfl,h3⟩
def ofL(limit:Int):Sg→J4→Sg × Int
 | s,[]=>(s,0)
 | s,b :: bs=>if (jB s b limit).2=0 then ofL limit (jB s b limit).1 bs else(jC,(jB s b limit).2)
def ofS(base:Int)(l:J4)(limit:Int):Sg × Int:=if (uO base).2=0∧nN limit=true then ofL limit (uO base).1 l else(jC,1)
theorem wT{s:Sg}{x:Batch}{limit:Int}(h:(jB s x limit).2=0):(fY s=s.bytes.length∧inO s.base=true∧nN limit=true)∧fF x=0∧j8 s≤x.base∧((s.bytes.length+(ek x).length:Nat):Int)≤limit∧jB s x limit=(⟨s.base,s.bytes++ek x⟩,0):=by
 unfold jB at h ⊢;split at h <;> rename_i h1
 ·split at h <;> rename_i h2
  ·split at h <;> rename_i h3
   ·cases h
   ·split at h <;> rename_i h4
    ·cases h
    ·exact⟨h1,h2,by omega,by omega,by rw[if_pos h1,if_pos h2,if_neg h3,if_neg h4]⟩
  ·exact absurd h h2
 ·cases h
theorem v6{s:Sg}{x:Batch}{limit:Int}(h:¬ (jB s x limit).2=0):(jB s x limit).1=jC:=by
 unfold jB at h ⊢;split at h <;> rename_i h1
 ·split at h <;> rename_i h2
  ·split at h <;> rename_i h3
   ·rw[if_pos h1,if_pos h2,if_pos h3]
   ·split at h <;> rename_i h4
    ·rw[if_pos h1,if_pos h2,if_neg h3,if_pos h4]
    ·exact absurd rfl h
  ·rw[if_pos h1,if_neg h2]
 ·rw[if_neg h1]
theorem s6{n:Int}:nN n=true↔1≤n∧n≤4096:=by simp[nN]
theorem qX{p:Int}{G:JT}:Gi (jC,p) G (.tuple #[.agg #[.int .i64 0,.slice none 0 0],.int .i64 p]):=⟨none,0,rfl,SB.nil⟩
theorem H4(base limit:Int)(l:J4)(v:Value)(G:JT)(hl:SlV G (BE G) 10 v l)(hbi:I64 base)(hli:I64 limit):FnD Tryz.prog 123 #[.int .i64 base,v,.int .i64 limit] G (Gi (ofS base l limit)):=by
 obtain⟨A,c,rfl,hc,hm,hA⟩:=hl;refine F123.fnD (by simp) (d7 ?_);unfold c123;intros;refine gR 0 0 c123r0.eq_1 ?_;intros;refine gR 12 17 c123r1.eq_1 ?_;refine(lS (Fm base G) _ _).mono ?_;rintro r h' ⟨G1,rfl,hg1,A1,c1,rfl,hs1⟩;refine sI ?_
 have hbad:∀ (fr:J0) (e:Env) (X:JW),¬ ((uO base).2=0∧nN limit=true)→go none Tryz.prog 44 v123.1 v123.2 (fB o123 fun v h=>Gi (ofS base l limit) h.G v) (Td.s ((SC.reg false c123r3).seq .ret) :: fr) e ⟨G1,[.reg 8 [.int .i64 (uO base).1.base,.slice A1 (uO base).1.bytes.length c1],.reg 6 [.int .i64 0,.slice none 0 0]],[]⟩:=fun fr e X hn=>by
  intros;refine gR 24 25 c123r3.eq_1 ?_;intros;refine rW ?_;rw[ofS,if_neg hn];exact qX
 intros;refine gR 17 23 c123r2.eq_1 ?_;refine gd (fun k1=>?_) (fun k1=>?_)
 ·refine sI ?_;intros;refine gC ?_;exact hbad _ _ [] fun h=>Kb k1 h.1
 have k1:(uO base).2=0:=by simpa using k1
 refine sI ?_;refine fK (oe _ _ _ _) ?_;intros;refine gC ?_;refine gb (fun k2=>?_) (fun k2=>?_)
 ·exact hbad _ _ [] fun h=>by rw[h.2]at k2;cases k2
 have k2:nN limit=true:=by simpa using k2
 clear hbad;have hlim:=s6.1 k2;have hnew:uO base=(⟨base,[]⟩,0):=by
  unfold uO at k1 ⊢;split at k1
  ·rename_i h;rw[if_pos h]
  ·cases k1
 have hof:ofS base l limit=ofL limit ⟨base,[]⟩ l:=by rw[ofS,if_pos ⟨k1,k2⟩,hnew]
 rw[hnew]at hs1 ⊢;rw[hof];clear hof hnew k1;dsimp only at hs1 ⊢;intros;refine gN ?_;intros;refine gR 0 0 c123r4.eq_1 ?_;intros;refine eK (fun e h=>∃ (s:Sg) (G':JT) (A':JY) (c':Nat),(Gle G1 G'∧SB G' (.slice A' s.bytes.length c') s.bytes∧ofL limit ⟨base,[]⟩ l=(s,0))∧h=⟨G',[.reg 8 [.int .i64 s.base,.slice A' s.bytes.length c'],.reg 6 [.int .i64 0,.slice none 0 0]],[]⟩) ?_ ?_
 ·intros;refine dT ?_
  refine ej (fun e h=>∃ (k:Nat) (s:Sg) (G':JT) (A':JY) (c':Nat),(k≤l.length∧Gle G1 G'∧SB G' (.slice A' s.bytes.length c') s.bytes∧s.base=base∧s.bytes.length≤4096∧ofL limit ⟨base,[]⟩ l=ofL limit s (l.drop k))∧e 27=.int .i64 k∧e 26=.int .i64 l.length∧e 25=.slice A l.length c∧e 2=.int .i64 limit∧h=⟨G',[.reg 8 [.int .i64 s.base,.slice A' s.bytes.length c'],.reg 6 [.int .i64 0,.slice none 0 0]],[]⟩) (fun e h=>l.length - iv (e 27)) ?_ ?_
  ·exact⟨0,⟨base,[]⟩,G1,A1,c1,⟨Nat.zero_le _,.refl _,hs1,rfl,by simp,rfl⟩,eE,eE,eE,eE,rfl⟩
  rintro e h ⟨k,s,G2,A2,c2,⟨hk,hg2,hs2,hsb,hsl,hof⟩,e27,e26,e25,e2,rfl⟩;refine dX [2,25,26,27] ?_;refine sJ4 @e2 @e25 @e26 @e27 ?_;intros;refine gR 0 0 c123r5.eq_1 ?_;intros;refine gC ?_;refine gb (fun ht=>?_) (fun ht=>?_)
  ·have ht:k < l.length:=by have:=Kb ht;omega
   have hw:=eY k c (by omega) hm;have hg02:=hg1.trans hg2;obtain⟨x,hx⟩:∃ x,l[k]?=some x:=⟨l[k],getElem?_eq_getElem (by omega)⟩;have hA2:=hA.le hg02 (E':=BE G) Kd;have hof2:ofL limit s (l.drop k)=if (jB s x limit).2=0 then ofL limit (jB s x limit).1 (l.drop (k+1))else(jC,(jB s x limit).2):=by
    obtain⟨h1,h2⟩:=List.getElem?_eq_some_iff.1 hx;rw[List.drop_eq_getElem_cons h1,h2,ofL]
   rw[hof2]at hof;intros;refine gN ?_;intros;refine gR 29 31 c123r6.eq_1 ?_;refine hA2.x_ld hx rfl rfl ?_;rintro a1 ha1 cs hbe;have hbe:=BE.le hg02 hbe;have happ:=qD s x limit _ cs G2 ⟨A2,c2,rfl,hs2,by rw[hsb];exact hbi⟩ (by omega) hbe hli;obtain⟨B,d,rfl,-⟩:=hbe;unfold fo fX at happ;unfold fo;refine sI ?_;intros;refine gR 31 38 c123r7.eq_1 ?_;refine(lS happ _ _).mono ?_
   rintro r h' ⟨G3,rfl,hg3,A3,c3,rfl,hs3⟩;have hok:=@wT s x limit;have hno:=@v6 s x limit;generalize jB s x limit=q at hok hno hs3 hof;obtain⟨s3,er⟩:=q;dsimp only at hok hno hs3 hof;refine sI ?_;intros;refine gR 38 39 c123r8.eq_1 ?_;intros;refine gC ?_;refine gb (fun k3=>?_) (fun k3=>?_)
   ·have k3:=Kb k3;intros;refine gR 40 42 c123r9.eq_1 ?_;intros;refine rW ?_;rw[hof,if_neg k3];exact qX
   ·have k3:er=0:=by simpa using k3
    subst k3;obtain⟨-,-,-,h4,h5⟩:=hok rfl;have h5:s3=⟨s.base,s.bytes++ek x⟩:=congrArg Prod.fst h5;rw[if_pos rfl]at hof;have hl3:s3.bytes.length≤4096:=by rw[h5];simp only[length_append];omega
    have hb3:s3.base=base:=by rw[h5];exact hsb
    intros;refine gN ?_;refine dW (dY (L':=[.reg 8 [.int .i64 s3.base,.slice A3 s3.bytes.length c3],.reg 6 [.int .i64 0,.slice none 0 0]]) (.cons _ J9)) ?_;intros;refine gR2 42 43 c123r10.eq_1 @hw ?_;intros;refine dT ?_;refine eC ⟨⟨k+1,s3,G3,A3,c3,⟨by omega,hg2.trans hg3,hs3,hb3,hl3,hof⟩,eE,eE,eE,eE,rfl⟩,?_⟩;refine sI ?_;omega
  ·have ht:k=l.length:=by have:=Kc ht;omega
   subst ht;rw[List.drop_length,ofL]at hof;refine eg ?_;refine sI ?_;intros;refine gN ?_;exact eC ⟨s,G2,A2,c2,⟨hg2,hs2,hof⟩,rfl⟩
 rintro e h ⟨s,G2,A2,c2,⟨hg2,hs2,hof⟩,rfl⟩;intros;intros;refine gR 43 44 c123r11.eq_1 ?_;intros;refine rW ?_;rw[hof];exact⟨A2,c2,rfl,hs2⟩
def mD(s:Sg):Sg × Int:=(⟨s.base,s.bytes.take (fY s)⟩,(s.bytes.length:Int) - (fY s:Int))
theorem Er(s:Sg)(cs:JU)(G:JT)(hs:SE G s cs)(hb:s.bytes.length≤1000000):FnO Tryz.prog 143 #[.agg cs.toArray] G [] (fun _ L' r=>rK (mD s) L' r):=by
 have hscan:=oW s cs G hs hb;have hs0:=hs;obtain⟨A,c,rfl,hl,hib⟩:=hs;have hgl:=lp s;refine F143.fnO (by simp) dS (d7 ?_);unfold c143;unfold fX at hscan hs0 ⊢;have hw:IntKind.i64.wrap ((s.bytes.length:Int) - (fY s:Int))=(s.bytes.length:Int) - (fY s:Int):=by rw[eh] <;> omega
 intros;refine gR 0 0 c143r0.eq_1 ?_;intros;refine gR 6 11 c143r1.eq_1 ?_;refine(hscan _ _).mono ?_;rintro r h' ⟨G1,L',rfl,hg1,u,zc,rfl,-,rfl⟩;refine sI ?_;intros;refine dW (dY (.cons _ J9)) ?_;intros;refine dT ?_;refine pQ _ (.cons _ J9) (by decide) ?_;refine sJ2 c143r2.eq_1 @hw ?_;refine(o5 (s8 s (fY s) _ G1 (SE.le hg1 hs0) hb hgl) _ _).mono ?_
 rintro r h' ⟨G2,L',rfl,hg2,A2,c2,zc2,rfl,-,rfl,hzc2⟩;refine⟨ed hg2 (.cons _ (.cons _ J9)),?_⟩;refine sI ?_;refine⟨ed hg2 (.cons _ (.cons _ J9)),?_⟩;refine sI ?_;intros;refine dT ?_;refine ea (ee _ rfl (.cons_cons _ Ka) (dV dS) ?_);exact⟨_,zc2,rfl,rfl,hzc2⟩
def DN(off:Int)(b:Batch):Bool:=decide (b.last < off)
def DF(s:Sg)(off:Int):Sg:=⟨s.base,s.bytes.take (fG ((fe s).takeWhile (DN off))).length⟩
theorem EW{α:Type}{p:α→Bool}:∀ {l:List α} {k:Nat} {x:α},(∀ y∈l.take k,p y=true)→l[k]?=some x→p x=false→l.takeWhile p=l.take k
 | [],_,_,_,h,_=>by simp at h
 | y :: l,0,x,_,h,hp=>by
  simp at h;subst h;rw[List.takeWhile_cons,if_neg (by rw[hp];simp)];rfl
 | y :: l,k+1,x,ha,h,hp=>by
  rw[List.takeWhile_cons,if_pos (ha y (by simp)),List.take_succ_cons,EW (k:=k) (fun z hz=>ha z (by rw[List.take_succ_cons];exact .tail _ hz)) (by simpa using h) hp]
theorem Bj{α:Type}{p:α→Bool}:∀ {l:List α},(∀ y∈l,p y=true)→l.takeWhile p=l
 | [],_=>rfl
 | y :: l,h=>by rw[List.takeWhile_cons,if_pos (h y (.head _)),Bj fun z hz=>h z (.tail _ hz)]
theorem Fh(s:Sg)(off:Int)(cs:JU)(G:JT)(hs:SE G s cs)(hb:s.bytes.length≤1000000)(ho:I64 off):FnO Tryz.prog 190 #[.agg cs.toArray,.int .i64 off] G [] (fun _ L' r=>xu (DF s off) L' r):=by
 have hs0:=hs;obtain⟨A,c,rfl,hl,hi⟩:=hs;refine F190.fnO (by simp) dS (d7 ?_);unfold c190;unfold fX at hs0 ⊢;intros;refine gR 0 0 c190r0.eq_1 ?_;intro b2 hb2 b3 hb3 b4 hb4;intros;refine dT ?_;refine eI (eO [_,_] _) ?_;rintro h' ⟨G1,rfl,hg1,f2⟩;refine eI (eO [_] _) ?_;rintro h' ⟨G2,rfl,hg2,f3⟩;have f2:=fun j u hu=>em hg2 (f2 j u hu)
 have e3:=f3 0 _ rfl;rw[eS]at e3;have hg02:=hg1.trans hg2;intros;refine gR 0 0 c190r1.eq_1 ?_;intro b5 hb5;refine ei [] [_] rfl (by simp) ⟨rfl,rfl⟩ ?_;refine sI ?_;intros;refine gR 8 9 c190r2.eq_1 ?_;refine⟨_,⟨_,[.int .i64 s.base,.slice A s.bytes.length c],rfl,rfl,rfl,fun j u hu=>.g (f2 j u hu)⟩,?_⟩;refine sI ?_;refine(rL s _ G2 (SE.le hg02 hs0) hb _ _).mono ?_;rintro r h' ⟨G3,rfl,hg3,b,rfl,hit⟩
 obtain⟨rr,hsc⟩:=fx s;have hcut:DF s off=⟨s.base,s.bytes.take (fG ((fe s).takeWhile (DN off))).length⟩:=rfl;generalize fe s=bs at hit hsc hcut;have hlen:=hsc.len;have hrest:∀ (fr:J0) (e:Env) (G':JT) (D:J5) (k:Nat),Gle G3 G'→bs.takeWhile (DN off)=bs.take k→e 2=.pointer (some ⟨b2,0,none⟩)→e 5=.pointer (some ⟨b5,0,none⟩)→e 4=.pointer (some ⟨b4,0,none⟩) →
   go none Tryz.prog 20 v190.1 v190.2 (fB o190 fun v h=>xu (DF s off) h.L v) (Td.s ((SC.reg false c190r7).seq .ret) :: fr) e ⟨G',[.blk b5 [.int .i64 (((fG (bs.take k)).length:Nat):Int)],.blk b4 [.int .i64 0,.slice none 0 0]],D⟩:=fun fr e G' D k hg htw e2 e5 e4=>by
  have hle:=gL bs k;refine dX [2,4,5] ?_;refine sJ3 @e2 @e4 @e5 ?_;intros;refine gR 17 20 c190r7.eq_1 ?_;refine⟨_,⟨_,[.int .i64 s.base,.slice A s.bytes.length c],rfl,rfl,rfl,fun j u hu=>.g (em (hg3.trans hg) (f2 j u hu))⟩,?_⟩;refine sI ?_;refine⟨_,dZ (.head _) rfl,?_⟩;refine sI ?_;refine(o5 (s8 s (fG (bs.take k)).length _ G' (SE.le (hg02.trans (hg3.trans hg)) hs0) hb (by omega)) _ _).mono ?_
  rintro r h' ⟨G4,L',rfl,hg4,A4,c4,zc4,rfl,-,rfl,hzc4⟩;refine sI ?_;refine ei [_,_] [] rfl (by simp) ⟨rfl,rfl⟩ ?_;refine sI ?_;intros;refine dT ?_;refine eI (ET (.cons _ J9)) ?_;rintro h' ⟨rfl,hne⟩;refine ea (ee (out:=[.agg #[.int .i64 s.base,.slice A4 (s.bytes.take (fG (bs.take k)).length).length c4]]) _ ?_ (.cons_cons _ Ka) (dV dS) ?_)
  ·simp[o190,mr,Kx.getB,uJ,ldC,Env.set,hne]
   trace_state
  rw[hcut,htw];exact⟨_,zc4,rfl,rfl,hzc4⟩
 refine sI ?_;intros;refine dT ?_;refine r9 (α:=Nat) (fun k G' L'=>L'=[.blk b5 [.int .i64 (((fG (bs.take k)).length:Nat):Int)],.blk b4 [.int .i64 0,.slice none 0 0]]∧∀ y∈bs.take k,DN off y=true)
  (fun ex k G' L'=>ex=.exit 0∧L'=[.blk b5 [.int .i64 (((fG (bs.take k)).length:Nat):Int)],.blk b4 [.int .i64 0,.slice none 0 0]]∧bs.takeWhile (DN off)=bs.take k) (eE) F177.enters (ec (ec dS))
  (fun i G G' L hg h=>h) hit (fun G x args h=>by obtain⟨y,_,_,_,rfl⟩:=h;rfl) ⟨rfl,by simp⟩ ?_ ?_ ?_
 ·rintro yl k i args G' L' hki hgl ⟨x,cs,hx,hbe,rfl⟩ ⟨rfl,hall⟩ _;obtain⟨rfl,hkl⟩:=pc hki;obtain⟨B,d,rfl,-⟩:=hbe;have e3':=em (hg3.trans hgl) e3;unfold fo;refine sI ?_;intros;refine gR 0 0 c190r3.eq_1 ?_;intros;refine gR 0 0 c190r4.eq_1 ?_;intro bb;refine gv (sq ?_);intros;refine gR 13 15 c190r5.eq_1 ?_;refine⟨_,⟨_,rfl,.g e3'⟩,?_⟩;refine sI ?_;intros;refine gC ?_
  refine gbD (fun h1=>?_) (fun h1=>?_)
  ·refine eg ?_;refine sI ?_;exact GE _ (.cons _ J9) (ec (ec dS)) ⟨rfl,rfl,EW hall hx (decide_eq_false (by omega))⟩
  ·have hcp:DN off x=true:=decide_eq_true (by omega);intros;refine gN ?_;intros;refine gR 16 17 c190r6.eq_1 ?_;refine ei [_] [_] rfl (by simp) ⟨rfl,rfl⟩ ?_;refine sI ?_;intros;refine dT ?_;refine gv (qO _ (.cons _ J9) (ec (ec dS)) ⟨rfl,fun y hy=>?_⟩);rw[List.take_add_one,hx]at hy;rcases List.mem_append.1 hy with h | h
   ·exact hall y h
   ·simp at h;subst h;exact hcp
 ·rintro G' L' dd hgl ⟨rfl,hall⟩ _;rw[List.length_range]at hall ⊢;refine iV ?_;refine hrest _ _ _ _ _ hgl ?_ ?_ ?_ ?_
  ·rw[take_length]at hall ⊢;exact Bj hall
  ·(refine sI ?_;try with_reducible exact True.intro)
  ·(refine sI ?_;try with_reducible exact True.intro)
  ·(refine sI ?_;try with_reducible exact True.intro)
 ·rintro ex k G' L' d _ hgl ⟨rfl,rfl,htw⟩ _;refine sI ?_;refine hrest _ _ _ _ _ hgl htw ?_ ?_ ?_
  ·(refine sI ?_;try with_reducible exact True.intro)
  ·(refine sI ?_;try with_reducible exact True.intro)
  ·(refine sI ?_;try with_reducible exact True.intro)
theorem oy{nx:Int}:¬ oB [] nx:=fun h=>by
 obtain⟨x,s,-,e,-⟩:=sk h;have:=gP x;have h2:=congrArg List.length e;simp at h2;omega
theorem Scans.join{nx:Int}{r r':J3}{bs ms:J4}(hok:∀ x∈bs,fF x=0)(ho:uH nx bs)(h:Scans (fQ nx bs) r ms r'):Scans nx (fG bs++r) (bs++ms) r' :=
 ⟨by rw[lA,List.append_assoc,← h.eq],fun x hx=>(List.mem_append.1 hx).elim (hok x) (h.ok x),(oC _ _ _).2 ⟨ho,h.ord⟩,by rw[lL];exact h.stop⟩
theorem qx{nx:Int}{bs:J4}(h:uH nx bs)(k:Nat):uH nx (bs.take k):=by
 rw[← List.take_append_drop k bs,oC]at h;exact h.1
theorem Scans.pre{nx:Int}{q r:J3}{bs:J4}(h:Scans nx q bs r)(k:Nat):Scans nx (fG (bs.take k)) (bs.take k) [] :=
 ⟨(append_nil _).symm,fun x hx=>h.ok x (List.mem_of_mem_take hx),qx h.ord k,oy⟩
theorem zT{nx:Int}{q r:J3}{bs:J4}(h:Scans nx q bs r)(k:Nat):q.take (fG (bs.take k)).length=fG (bs.take k):=by
 have e:q=fG (bs.take k)++(fG (bs.drop k)++r):=by
  rw[← List.append_assoc,← lA,List.take_append_drop];exact h.eq
 rw[e,List.take_left]
theorem ya{s:Sg}{bs:J4}{r:J3}(h:Scans s.base s.bytes bs r)(k:Nat):fe ⟨s.base,s.bytes.take (fG (bs.take k)).length⟩=bs.take k :=
 Scans.is (r:=[]) (s:=⟨s.base,s.bytes.take (fG (bs.take k)).length⟩) (by show Scans s.base _ _ _;rw[zT h k];exact h.pre k)
theorem vA{s:Sg}{x:Batch}(hg:fY s=s.bytes.length)(h0:fF x=0)(ho:j8 s≤x.base):Scans s.base (s.bytes++ek x) (fe s++[x]) []:=by
 obtain⟨r,h⟩:=fx s;have hr:s.bytes=fG (fe s):=by
  have e:=h.eq;have hl:=congrArg List.length e;rw[length_append]at hl;have:r=[]:=List.eq_nil_of_length_eq_zero (by unfold fY at hg;omega);rw[this,append_nil]at e;exact e
 have:=Scans.join (ms:=[x]) (r:=ek x) (r':=[]) h.ok h.ord ⟨by simp[fG],fun y hy=>by simp at hy;subst hy;exact h0,⟨ho,trivial⟩,oy⟩;rw[← hr]at this;exact this
theorem lZ:∀ {nx:Int} {bs:J4},uH nx bs→(∀ x∈bs,fF x=0)→∀ k,fQ nx (bs.take k)≤fQ nx bs
 | nx,[],_,_,k=>by simp[fQ]
 | nx,x :: bs,ho,hok,0=>by
  have h1:=lZ ho.2 (fun z hz=>hok z (.tail _ hz)) 0;have h2:x.base≤x.last:=(jP (hok x (.head _))).1.2.2.1.1;have h3:=ho.1;simp only[List.take_zero,fQ]at h1 ⊢;omega
 | nx,x :: bs,ho,hok,k+1=>lZ ho.2 (fun z hz=>hok z (.tail _ hz)) k
theorem F132:Fun Tryz.prog 132 17 v132 c132 o132:=Fun.mkA Tryz.func132 Tryz.ntmps132
theorem yD(s t:Sg)(cs ds:JU)(G:JT)(hs:SE G s cs)(ht:SE G t ds):FnS Tryz.prog 132 #[.agg cs.toArray,.agg ds.toArray] G (.bool (decide (s=t))):=by
 obtain⟨A,c,rfl,hl,hi⟩:=hs;obtain⟨B,d,rfl,hm,hj⟩:=ht;have hd:decide (s=t)=(decide (s.base=t.base) && decide (s.bytes=t.bytes)):=by
  rw[← Bool.decide_and];apply decide_eq_decide.2;constructor
  ·rintro rfl;exact⟨rfl,rfl⟩
  ·rintro⟨h1,h2⟩;cases s;cases t;simp_all
 rw[hd];refine F132.fnS (by simp) (d7 ?_);unfold c132 fX;intros;refine gR 0 0 c132r0.eq_1 ?_;intros;refine gR 6 17 c132r1.eq_1 ?_;refine gd (fun k1=>?_) (fun k1=>?_)
 ·refine sI ?_;refine fK (Ae _ _ _ _ _ hl hm _ _) ?_;intros;refine rW ?_;rw[k1,Bool.true_and]
 ·refine sI ?_;intros;refine rW ?_;rw[k1,Bool.false_and]
theorem F175:Fun Tryz.prog 175 50 v175 c175 o175:=Fun.mkA Tryz.func175 Tryz.ntmps175
theorem F174:Fun Tryz.prog 174 23 v174 c174 o174:=Fun.mkA Tryz.func174 Tryz.ntmps174
theorem F149:Fun Tryz.prog 149 25 v149 c149 o149:=Fun.mkA Tryz.func149 Tryz.ntmps149
theorem tS{bs:J4}{t:Nat}{y:Batch}(b:Int)(h0:0 < t)(hy:bs[t - 1]?=some y):fQ b (bs.take t)=y.last+1:=by
 have:=oL b hy
 rwa [show t - 1+1=t by omega]at this
theorem r7:∀ {nx:Int} {bs:J4},uH nx bs→(∀ x∈bs,fF x=0)→nx≤fQ nx bs
 | nx,[],_,_=>Int.le_refl _
 | nx,x :: bs,ho,hok=>by
  have h1:=r7 ho.2 (fun z hz=>hok z (.tail _ hz));have h2:x.base≤x.last:=(jP (hok x (.head _))).1.2.2.1.1;have h3:=ho.1;simp only[fQ];omega
theorem nt{W:J4}{x:Batch}(b:Int)(hx:W[W.length - 1]?=some x):fQ b W=x.last+1:=by
 have h1:=(List.getElem?_eq_some_iff.1 hx).1;have:=oL b hx
 rwa [show W.length - 1+1=W.length by omega,take_length]at this
set_option maxHeartbeats 1000000 in
theorem pf(s:Sg)(cs:JU)(G:JT)(hs:SE G s cs)(hb:s.bytes.length≤1000000):FnO Tryz.prog 175 #[.agg cs.toArray] G [] (fun G' L' r=>xt s G' L' r):=by
 have hs0:=hs;obtain⟨A,c,rfl,hl,hi⟩:=hs;refine F175.fnO (by simp) dS (d7 ?_);obtain⟨rr,hsc⟩:=fx s;have hSR:∀ G' u zc,Cells (BE G') 10 (fe s) zc→xt s G' [.row u 43 10 (fe s).length zc] (.tuple #[u,.int .i64 (((fG (fe s)).length:Nat):Int)]):=fun G' u zc h=>⟨u,zc,rfl,h,rfl⟩
 generalize fe s=bs at hsc hSR;have hlen:=hsc.len;unfold c175;unfold fX at hs0 ⊢;intros;refine gR 0 0 c175r0.eq_1 ?_;intros;refine gR 0 0 c175r1.eq_1 ?_;intros;refine gR 0 0 c175r2.eq_1 ?_;intros;intros;refine dT ?_;refine dW (ew none 43 10) ?_
 refine ej (fun e h=>∃ (t:Nat) (G':JT) (u:Value) (zc:JU) (Lh:JW),(t≤bs.length∧Gle G G'∧Cells (BE G') 10 (bs.take t) zc)∧e 4=u∧e 5=.int .i64 (((fG (bs.take t)).length:Nat):Int)∧h=⟨G',Lh,[]⟩∧[.row u 43 10 (bs.take t).length zc,.reg 1 [.int .i64 s.base,.slice A s.bytes.length c]].Sublist Lh) (fun e h=>s.bytes.length+1 - iv (e 5)) ?_ ?_
 ·exact⟨0,G,_,[],_,⟨Nat.zero_le _,.refl G,.nil⟩,eE,rfl,rfl,List.Sublist.refl _⟩
 rintro e h ⟨t,G',u,zc,Lh,⟨ht,hgg,hzc⟩,e4,e5,rfl,hsub⟩;refine dX [4,5] ?_;refine sJ2 @e4 @e5 ?_;intros;refine dW (dY hsub) ?_;have hget:=zA s.bytes (((fG (bs.take t)).length:Nat):Int) _ G' (SB.le hl hgg) hb;unfold qQ at hget;have htk:=gL bs t;have htl2:(bs.take t).length=t:=by rw[List.length_take];omega
 intros;refine gR 9 17 c175r3.eq_1 ?_;refine(hget _ _).mono ?_;rintro v h' ⟨G1,rfl,hg1,cs,rfl,hbe⟩;have hg01:=hgg.trans hg1;have hzc:=eU hzc fun _ _ h=>BE.le hg1 h
 by_cases htl:t < bs.length
 ·obtain⟨x,hx⟩:∃ x,bs[t]?=some x:=⟨bs[t],getElem?_eq_getElem htl⟩;obtain⟨a1,a2,a3,a4⟩:=hsc.at_ hx;rw[a1]at hbe ⊢;dsimp only at hbe ⊢;have hbe0:=hbe;obtain⟨B,d,rfl,-⟩:=hbe;have hlt:(fG (bs.take t)).length < (fG (bs.take (t+1))).length:=by
   have:=gP x;rw[m8 hx,length_append];omega
  have hle:=gL bs (t+1);have htk1:bs.take (t+1)=bs.take t++[x]:=by rw[List.take_add_one,hx];rfl
  have hge:s.base≤fQ s.base (bs.take t):=r7 (qx hsc.ord t) fun z hz=>hsc.ok z (List.mem_of_mem_take hz)
  have n1:decide ((0:Int)≠0)=false:=by decide
  have n2:decide (x.base < s.base)=false:=decide_eq_false (by omega);unfold fo at hbe0 ⊢;refine sI ?_;intros;try refine dU ?_
  refine eI (gG (.tail _ (.head _))) ?_;rintro h' ⟨rfl,Au,cu,rfl,hcu,hmu⟩
  refine eK (fun e h=>e 4=.slice Au (bs.take t).length cu∧e 7=.int .i64 (((fG (bs.take (t+1))).length:Nat):Int)∧h=⟨G1,[.reg 6 [.int .i64 x.base,.int .i64 x.last,.int .i64 x.src,.int .i64 x.epoch,.int .i64 x.pid,.int .i64 x.gen,.int .i64 x.seq,.bool x.txn,.int .i64 x.ctl,.slice B x.recs.length d],.row (.slice Au (bs.take t).length cu) 43 10 (bs.take t).length zc,.reg 1 [.int .i64 s.base,.slice A s.bytes.length c]],[]⟩) ?_ ?_
  ·by_cases h0:0 < t
   ·refine eI (jK (.tail _ (.head _)) (by omega)) ?_;rintro h' ⟨rfl,g,c0,hA3,-,-⟩;cases hA3;obtain⟨y,hy⟩:∃ y,bs[t - 1]?=some y:=⟨bs[t - 1]'(by omega),getElem?_eq_getElem _⟩;have hyt:(bs.take t)[t - 1]?=some y:=by rw[List.getElem?_take,if_pos (by omega)];exact hy
    have hnx:=tS s.base h0 hy;have hw1:=xM t h0 (by omega);have n3:decide (0 < (((bs.take t).length:Nat):Int))=true:=decide_eq_true (by omega);have n4:decide (x.base≤y.last)=false:=decide_eq_false (by omega);obtain⟨cy,hEy,hly,hcy⟩:=hzc.get hyt;have hv1:=hcy 1 (.int .i64 y.last) (by obtain⟨_,_,rfl,-⟩:=hEy;rfl)
    have hw1:IntKind.i64.wrap ((((bs.take t).length:Nat):Int) - 1)=((t - 1:Nat):Int):=by rw[htl2];exact hw1
    intros;refine dT ?_;refine pP 17 42 (by decide) ?_;refine sJ5 c175r4.eq_1 @n1 @n2 @n3 @hw1 ?_;refine⟨by omega,_,rfl,?_⟩;rw[eS,eS,Nat.zero_add];refine⟨_,fj (.tail _ (.head _)) hv1,?_⟩;refine sJ @n4 ?_;intros;refine gC ?_;intros;refine dT ?_;exact eC ⟨eE,eE,rfl⟩
   ·have n3:decide (0 < (((bs.take t).length:Nat):Int))=false:=decide_eq_false (by omega);intros;refine dT ?_;refine pP 17 42 (by decide) ?_;refine sJ4 c175r4.eq_1 @n1 @n2 @n3 ?_;intros;refine gC ?_;intros;refine dT ?_;exact eC ⟨eE,eE,rfl⟩
  rintro e h ⟨e4,e7,rfl⟩;refine dX [4,7] ?_;refine sJ2 @e4 @e7 ?_;intros;intros;refine gR 45 49 c175r6.eq_1 ?_;intro bk hbk;refine ts (L1:=[_]) (L2:=[_]) (E:=BE G1) (x:=x) rfl hbe0 rfl (by simp[Value.oneCell']) hzc (by omega) (by omega) fun A' c' zc' hzc'=>?_
  rw[← htk1]at hzc' ⊢;refine sI ?_;intros;refine gR 49 50 c175r7.eq_1 ?_;intros;refine dT ?_;refine eC ⟨⟨t+1,G1,_,zc',_,⟨by omega,hg01,hzc'⟩,eE,eE,rfl,.cons _ (.cons _ J9)⟩,?_⟩;refine sI ?_;omega
 ·have htl:t=bs.length:=by omega
  subst htl;rw[take_length]at hget hbe hzc ⊢;have hend:=hsc.end_;generalize getB s.bytes (((fG bs).length:Nat):Int)=q at *;obtain⟨x,nx,er⟩:=q;dsimp only at hbe hend ⊢;obtain⟨B,d,rfl,-⟩:=hbe;unfold fo;have hfin:=hSR G1 u zc hzc
  have hret:∀ (e:Env) (fr:J0),e 4=u→e 5=.int .i64 (((fG bs).length:Nat):Int)→go none Tryz.prog 50 v175.1 v175.2 (fB o175 fun v h=>xt s h.G h.L v) (Td.s ((SC.reg false c175r5).seq .ret) :: fr) e ⟨G1,[.reg 6 [.int .i64 x.base,.int .i64 x.last,.int .i64 x.src,.int .i64 x.epoch,.int .i64 x.pid,.int .i64 x.gen,.int .i64 x.seq,.bool x.txn,.int .i64 x.ctl,.slice B x.recs.length d],.row u 43 10 bs.length zc,.reg 1 [.int .i64 s.base,.slice A s.bytes.length c]],[]⟩:=fun e fr e4 e5=>by
   refine dX [4,5] ?_;refine sJ2 @e4 @e5 ?_;intros;refine gR 43 45 c175r5.eq_1 ?_;intros;refine dT ?_;exact ea (ee _ rfl (.cons _ (.cons_cons _ Ka)) (dV dS) hfin)
  refine sI ?_;intros;try refine dU ?_
  refine eI (gG (.tail _ (.head _))) ?_;rintro h' ⟨rfl,Au,cu,rfl,hcu,hmu⟩;by_cases h0:0 < bs.length
  ·refine eI (jK (.tail _ (.head _)) (by omega)) ?_;rintro h' ⟨rfl,g,c0,hA3,-,-⟩;cases hA3;obtain⟨y,hy⟩:∃ y,bs[bs.length - 1]?=some y:=⟨bs[bs.length - 1]'(by omega),getElem?_eq_getElem _⟩;have hnx:=nt s.base hy;have hw1:=xM bs.length h0 (by omega);have n3:decide (0 < ((bs.length:Nat):Int))=true:=decide_eq_true (by omega);obtain⟨cy,hEy,hly,hcy⟩:=hzc.get hy
   have hv1:=hcy 1 (.int .i64 y.last) (by obtain⟨_,_,rfl,-⟩:=hEy;rfl);intros;refine dT ?_;refine pP 17 42 (by decide) ?_;refine sJ c175r4.eq_1 ?_;refine gq (fun k1=>?_) (fun k1=>?_)
   ·refine sI ?_;intros;refine gC ?_;exact hret _ _ (eE) (eE)
   have k1:er=0:=by simpa using k1
   refine sI ?_;refine gq (fun k2=>?_) (fun k2=>?_)
   ·refine sI ?_;intros;refine gC ?_;exact hret _ _ (eE) (eE)
   have k2:=Kc k2;have n4:decide (x.base≤y.last)=true:=decide_eq_true (by rcases hend with h | h;exact absurd k1 h;omega)
   refine sJ2 @n3 @hw1 ?_;refine⟨by omega,_,rfl,?_⟩;rw[eS,eS,Nat.zero_add];refine⟨_,fj (.tail _ (.head _)) hv1,?_⟩;refine sJ @n4 ?_;intros;refine gC ?_;exact hret _ _ (eE) (eE)
  ·have hb0:bs=[]:=List.eq_nil_of_length_eq_zero (by omega);have hnx:fQ s.base bs=s.base:=by rw[hb0];rfl
   intros;refine dT ?_;refine pP 17 42 (by decide) ?_;refine sJ c175r4.eq_1 ?_;refine gq (fun k1=>?_) (fun k1=>?_)
   ·refine sI ?_;intros;refine gC ?_;exact hret _ _ (eE) (eE)
   have k1:er=0:=by simpa using k1
   have k2:decide (x.base < s.base)=true:=decide_eq_true (by rcases hend with h | h;exact absurd k1 h;omega)
   refine sJ @k2 ?_;intros;refine gC ?_;exact hret _ _ (eE) (eE)
theorem vT(s:Sg)(cs:JU)(G:JT)(hs:SE G s cs)(hb:s.bytes.length≤1000000):FnS Tryz.prog 174 #[.agg cs.toArray] G (.int .i64 (j8 s)):=by
 have hscan:=pf s cs G hs hb;have hs0:=hs;obtain⟨A,c,rfl,hl,hi⟩:=hs;obtain⟨rr,hsc⟩:=fx s;have hend:j8 s=fQ s.base (fe s):=rfl;refine F174.fnS (by simp) (d7 ?_);unfold c174;unfold fX at hscan ⊢;intros;refine gR 0 0 c174r0.eq_1 ?_;intros;refine gR 4 10 c174r1.eq_1 ?_;refine(hscan _ _).mono ?_;rintro r h' ⟨G1,L',rfl,hg1,u,zc,rfl,hzc,rfl⟩;generalize fe s=bs at *;refine sI ?_;intros;try refine dU ?_
 refine eI (ef [] _ (by decide) hzc) ?_;rintro h' ⟨G2,rfl,hg2,A2,c2,rfl,hc2,hm2,hA2⟩;intros;refine gR 10 12 c174r2.eq_1 ?_;intros;refine gC ?_;refine gbD (fun k1=>?_) (fun k1=>?_)
 ·have hb0:bs=[]:=List.eq_nil_of_length_eq_zero (by omega);intros;refine gR 14 15 c174r3.eq_1 ?_;intros;refine rW ?_;rw[hend,hb0];rfl
 ·obtain⟨y,hy⟩:∃ y,bs[bs.length - 1]?=some y:=⟨bs[bs.length - 1]'(by omega),getElem?_eq_getElem _⟩;have hnx:=nt s.base hy;have hw1:=xM bs.length (by omega) (by omega);have hlw:=vr (hsc.ok y (mem_of_getElem? hy));intros;refine gN ?_;intros;refine gR2 15 23 c174r4.eq_1 @hw1 ?_
  refine hA2.x_lf (k:=bs.length - 1) (u:=.int .i64 y.last) hy (by omega) rfl (fun cs h=>by obtain⟨_,_,rfl,-⟩:=h;rfl) fun a ha=>?_
  refine sJ @hlw ?_;intros;refine rW ?_;rw[hend,hnx]
def fE(s:Sg):Bool:=inO s.base && decide (fY s=s.bytes.length)
theorem qh(s:Sg)(cs:JU)(G:JT)(hs:SE G s cs)(hb:s.bytes.length≤1000000):FnS Tryz.prog 149 #[.agg cs.toArray] G (.bool (fE s)):=by
 have hscan:=pf s cs G hs hb;obtain⟨A,c,rfl,hl,hi⟩:=hs;refine F149.fnS (by simp) (d7 ?_);unfold c149;unfold fX at hscan ⊢;have hd:decide (((fY s:Nat):Int)=((s.bytes.length:Nat):Int))=decide (fY s=s.bytes.length):=decide_eq_decide.2 (by omega);intros;refine gR 0 0 c149r0.eq_1 ?_;intros;refine gR 5 10 c149r1.eq_1 ?_;refine(hscan _ _).mono ?_;rintro r h' ⟨G1,L',rfl,hg1,u,zc,rfl,hzc,rfl⟩;refine sI ?_
 intros;refine gR2 11 25 c149r2.eq_1 @hd ?_;refine gd (fun k1=>?_) (fun k1=>?_)
 ·refine sI ?_;refine gd (fun k2=>?_) (fun k2=>?_)
  ·refine sJ @hd ?_;intros;refine rW ?_;rw[fE,inO,k1,k2,Bool.true_and,Bool.true_and]
  ·refine sI ?_;intros;refine rW ?_;rw[fE,inO,k2,Bool.and_false,Bool.false_and]
 ·refine sI ?_;intros;refine rW ?_;rw[fE,inO,k1,Bool.false_and,Bool.false_and]
structure Lg where
 limit:Int
 start:Int
 segs:List Sg
deriving DecidableEq
def gQ:Lg:=⟨0,0,[]⟩
def kO(limit start:Int):Bool:=decide (256≤limit) && decide (limit≤4096) && inO start
def nX(a b:Sg):Bool:=decide (a.base < b.base) && decide (j8 a≤b.base)
def zB(limit:Int)(p:Option Sg)(s:Sg):Prop:=(fE s=true∧(s.bytes.length:Int)≤limit)∧∀ a,p=some a→nX a s=true
instance (limit:Int) (s:Sg):∀ p,Decidable (zB limit p s)
 | none=>if h:fE s=true∧(s.bytes.length:Int)≤limit then .isTrue ⟨h,fun a h=>by cases h⟩else .isFalse fun hh=>h hh.1
 | some a=>if h:(fE s=true∧(s.bytes.length:Int)≤limit)∧nX a s=true then .isTrue ⟨h.1,fun b hb=>by cases hb;exact h.2⟩else .isFalse fun hh=>h ⟨hh.1,hh.2 a rfl⟩
def okS(limit:Int):Option Sg→List Sg→Prop
 | _,[]=>True
 | p,s :: ss=>zB limit p s∧okS limit (some s) ss
instance (limit:Int):∀ p l,Decidable (okS limit p l)
 | _,[]=>.isTrue trivial
 | p,s :: ss=>@instDecidableAnd _ _ (inferInstance) (instDecidableOkS limit (some s) ss)
where instDecidableOkS (limit:Int):∀ p l,Decidable (okS limit p l)
 | _,[]=>.isTrue trivial
 | p,s :: ss=>@instDecidableAnd _ _ (inferInstance) (instDecidableOkS limit (some s) ss)
def j6:Option Sg→List Sg→Option Sg
 | p,[]=>p
 | _,s :: ss=>j6 (some s) ss
theorem zr(p:Option Sg)(a b:List Sg):j6 p (a++b)=j6 (j6 p a) b:=by
 induction a generalizing p with
 | nil=>rfl
 | cons x a ih=>exact ih _
theorem l9(limit:Int)(p:Option Sg)(a b:List Sg):okS limit p (a++b)↔okS limit p a∧okS limit (j6 p a) b:=by
 induction a generalizing p with
 | nil=>simp[okS,j6]
 | cons x a ih=>simp only[List.cons_append,okS,j6,ih,and_assoc]
theorem mZ(p:Option Sg)(a:List Sg)(s:Sg):j6 p (a++[s])=some s:=by rw[zr];rfl
theorem eG{α:Type}{l:List α}{k:Nat}{x:α}(h:l[k]?=some x):l.take (k+1)=l.take k++[x]:=by rw[List.take_add_one,h];rfl
theorem nh{l:List Sg}{k:Nat}{s:Sg}(p:Option Sg)(h:l[k]?=some s):j6 p (l.take (k+1))=some s:=by rw[eG h,mZ]
theorem oP{limit:Int}{l:List Sg}{k:Nat}{s:Sg}(h:l[k]?=some s):okS limit none (l.take (k+1))↔okS limit none (l.take k)∧zB limit (j6 none (l.take k)) s:=by
 rw[eG h,l9];simp[okS]
theorem C4{limit:Int}{p:Option Sg}{l:List Sg}(h:okS limit p l)(k:Nat):okS limit p (l.take k):=by
 rw[← List.take_append_drop k l,l9]at h;exact h.1
theorem DG{limit:Int}{l:List Sg}:∀ {p:Option Sg},okS limit p l→∀ s∈l,fE s=true∧(s.bytes.length:Int)≤limit:=by
 induction l with
 | nil=>intro p _ s h;cases h
 | cons x l ih =>
  intro p h s hs;rcases List.mem_cons.1 hs with rfl | hs
  ·exact h.1.1
  ·exact ih h.2 s hs
theorem pS{l:List Sg}{s:Sg}(p:Option Sg)(h:l[l.length - 1]?=some s):j6 p l=some s:=by
 have h0:=(List.getElem?_eq_some_iff.1 h).1;have:=nh p h
 rwa [Nat.sub_add_cancel (by omega),take_length]at this
def gj(l:Lg):Int:=if kO l.limit l.start=true∧l.segs≠[]∧okS l.limit none l.segs then(if 256 < l.segs.length then 2 else 0)else 1
theorem iS{l:Lg}(h:gj l=0):kO l.limit l.start=true∧l.segs≠[]∧okS l.limit none l.segs∧l.segs.length≤256:=by
 unfold gj at h;split at h
 ·rename_i h1;split at h
  ·cases h
  ·exact⟨h1.1,h1.2.1,h1.2.2,by omega⟩
 ·cases h
theorem rG{l:Lg}(h1:kO l.limit l.start=true)(h2:l.segs≠[])(h3:okS l.limit none l.segs)(h4:l.segs.length≤256):gj l=0:=by
 rw[gj,if_pos ⟨h1,h2,h3⟩,if_neg (by omega)]
theorem gZ{a b:Int}:kO a b=true↔(256≤a∧a≤4096)∧inO b=true:=by simp[kO]
def yk(n:Int):Option Sg→Int
 | none=>n
 | some s=>max n (j8 s)
def tQ(l:Lg):Int:=yk l.start (j6 none l.segs)
def fD(l:Lg):Int:=if gj l=0 then tQ l else 0
def wq:Int→List Sg→Int
 | n,[]=>n
 | n,s :: ss=>wq (max n (j8 s)) ss
theorem zf(n:Int)(a b:List Sg):wq n (a++b)=wq (wq n a) b:=by
 induction a generalizing n with
 | nil=>rfl
 | cons x a ih=>exact ih _
theorem gi{s:Sg}:fE s=true↔fY s=s.bytes.length∧inO s.base=true:=by
 simp[fE,and_comm]
theorem Scans.ge{nx:Int}{q r:J3}{bs:J4}(h:Scans nx q bs r):nx≤fQ nx bs:=by
 have:=lZ h.ord h.ok 0;simpa [fQ]using this
theorem C7(s:Sg):s.base≤j8 s:=by
 obtain⟨r,h⟩:=fx s;exact h.ge
theorem sH{a b:Sg}:nX a b=true↔a.base < b.base∧j8 a≤b.base:=by simp[nX]
theorem vU{limit:Int}:∀ {l:List Sg} {p:Option Sg} {n:Int},okS limit p l→wq (yk n p) l=yk n (j6 p l)
 | [],p,n,h=>rfl
 | s :: l,p,n,h=>by
  show wq (max (yk n p) (j8 s)) l=yk n (j6 (some s) l);have:max (yk n p) (j8 s)=yk n (some s):=by
   cases p with
   | none=>rfl
   | some a =>
    have:=sH.1 (h.1.2 a rfl);have:=C7 s;show max (max n (j8 a)) (j8 s)=max n (j8 s);omega
  rw[this];exact vU h.2
theorem BQ{l:Lg}(h:okS l.limit none l.segs):wq l.start l.segs=tQ l:=vU (p:=none) h
def bsS(l:List Sg):J4:=l.flatMap fe
theorem oQ:bsS []=[]:=rfl
theorem kA(s:Sg)(l:List Sg):bsS (s :: l)=fe s++bsS l:=rfl
theorem nz(a b:List Sg):bsS (a++b)=bsS a++bsS b:=by simp[bsS]
def gt(off:Int)(l:J4):J4:=l.filter fun b=>decide (off≤b.last)
theorem jp(off:Int)(a b:J4):gt off (a++b)=gt off a++gt off b:=by simp[gt]
def Ge(l:Lg):J4:=gt l.start (bsS l.segs)
def mK(l:Lg):J4:=if gj l=0 then Ge l else[]
def pL(limit start:Int):Lg × Int:=if kO limit start=true then(⟨limit,start,[⟨start,[]⟩]⟩,0)else(gQ,1)
def xV(l:Lg):Sg:=(j6 none l.segs).getD jC
def jV(l:Lg)(b:Batch):Lg × Int :=
 if gj l=0 then
  if fF b=0 then
   if b.base < tQ l then(gQ,71)
   else if l.limit < ((ek b).length:Int)then(gQ,70)
   else if (jB (xV l) b l.limit).2=0 then(⟨l.limit,l.start,l.segs.take (l.segs.length - 1)++[(jB (xV l) b l.limit).1]⟩,0)
   else if l.segs.length=256 then(gQ,2)
   else(⟨l.limit,l.start,l.segs++[⟨b.base,ek b⟩]⟩,0)
  else(gQ,fF b)
 else(gQ,gj l)
def Aq(l:Lg)(off:Int):Bool:=decide (l.start≤off) && decide (off≤tQ l)
def sx(l:List Sg)(to:Int):List Sg:=(l.filter fun s=>decide (s.base < to)).map fun s=>DF s to
def t8(l:List Sg)(to:Int):List Sg:=if sx l to=[]then[⟨to,[]⟩]else sx l to
def rI(l:Lg)(to:Int):Lg × Int :=
 if gj l=0 then if Aq l to=true then(⟨l.limit,l.start,t8 l.segs to⟩,0)else(gQ,90)else(gQ,gj l)
def Ba(l:Lg)(n:Nat):Sg:=l.segs.getD n jC
def jv(p:Option Sg)(s:Sg):Bool :=
 match p with
 | none=>true
 | some a=>fE a && nX a s
def fJ:Option Sg→List Sg→List Sg
 | _,[]=>[]
 | p,s :: ss=>if jv p s=true then(mD s).1 :: fJ (some s) ss else[]
def fW:List Sg→Nat
 | []=>0
 | s :: ss=>s.bytes.length+fW ss
theorem lr(a b:List Sg):fW (a++b)=fW a+fW b:=by
 induction a with
 | nil=>simp[fW]
 | cons x a ih=>simp only[List.cons_append,fW,ih];omega
def lB(l:Lg):Bool:=match l.segs with | []=>false | s :: _=>inO s.base
def jc(l:Lg):Lg × Int :=
 if kO l.limit l.start=true∧lB l=true then(⟨l.limit,l.start,fJ none l.segs⟩,(fW l.segs:Int) - (fW (fJ none l.segs):Int))else(gQ,0)
theorem wS{a b:Int}(h:kO a b=true):nN a=true:=by
 have:=gZ.1 h;exact s6.2 ⟨by omega,by omega⟩
theorem En{a b:Int}(h:kO a b=true):inO b=true:=(gZ.1 h).2
theorem wD{b:Batch}(h:fF b=0):b.base≤b.last:=(jP h).1.2.2.1.1
theorem wt{b:Batch}(h:fF b=0):inO b.base=true∧inO b.last=true:=by
 obtain⟨⟨f1,f2,-⟩,-⟩:=(jP h).1;simp[rng]at f1 f2;exact⟨ib.2 (by omega),ib.2 (by omega)⟩
theorem AV{s:Sg}{b:Batch}{limit:Int}(hw:fE s=true)(hl:nN limit=true)(h0:fF b=0)(ho:j8 s≤b.base):
  jB s b limit=if limit < ((s.bytes.length+(ek b).length:Nat):Int)then(jC,70)else(⟨s.base,s.bytes++ek b⟩,0):=by
 have hw:=gi.1 hw;split
 ·rename_i h;exact AS ⟨hw.1,hw.2,hl⟩ h0 (by omega) h
 ·rename_i h;exact vM ⟨hw.1,hw.2,hl⟩ h0 (by omega) h
theorem FA{base:Int}(h:inO base=true):uO base=(⟨base,[]⟩,0):=if_pos h
theorem Cy(base:Int):j8 ⟨base,[]⟩=base:=rfl
theorem El{b:Batch}{limit:Int}(hl:nN limit=true)(h0:fF b=0)(h1:((ek b).length:Int)≤limit):ofS b.base [b] limit=(⟨b.base,ek b⟩,0):=by
 have hin:=(wt h0).1;have ha:jB ⟨b.base,[]⟩ b limit=(⟨b.base,ek b⟩,0):=by
  have:=vM (s:=⟨b.base,[]⟩) (x:=b) (limit:=limit) ⟨rfl,hin,hl⟩ h0 (by rw[Cy];omega) (by simp;omega);rw[this];simp
 unfold ofS;rw[FA hin,if_pos ⟨rfl,hl⟩];simp only[ofL,ha,if_true]
theorem oE{b:Batch}(h0:fF b=0):fe ⟨b.base,ek b⟩=[b] :=
 Scans.is (r:=[]) ⟨by simp[fG],fun x hx=>by simp at hx;subst hx;exact h0,⟨Int.le_refl _,trivial⟩,oy⟩
theorem wr{b:Batch}(h0:fF b=0):fE ⟨b.base,ek b⟩=true :=
 gi.2 ⟨by rw[fY,oE h0];simp[fG],(wt h0).1⟩
theorem Do{b:Batch}(h0:fF b=0):j8 ⟨b.base,ek b⟩=b.last+1:=by rw[j8,oE h0];rfl
theorem qI{s:Sg}(h:fY s=s.bytes.length):s.bytes=fG (fe s):=by
 obtain⟨r,hs⟩:=fx s;have e:=hs.eq;have hl:=congrArg List.length e;rw[length_append]at hl;have:r=[]:=List.eq_nil_of_length_eq_zero (by unfold fY at h;omega);rw[this,append_nil]at e;exact e
theorem FM{s:Sg}{b:Batch}(hw:fE s=true)(h0:fF b=0)(ho:j8 s≤b.base):fe ⟨s.base,s.bytes++ek b⟩=fe s++[b]∧fE ⟨s.base,s.bytes++ek b⟩=true∧j8 ⟨s.base,s.bytes++ek b⟩=b.last+1:=by
 have hw:=gi.1 hw;have h1:fe ⟨s.base,s.bytes++ek b⟩=fe s++[b]:=Scans.is (r:=[]) (vA hw.1 h0 ho);refine⟨h1,gi.2 ⟨?_,hw.2⟩,?_⟩
 ·rw[fY,h1,lA,← qI hw.1];simp[fG]
 ·rw[j8,h1,lL];rfl
theorem kz{l:List Sg}(h:l≠[]):∃ s,l[l.length - 1]?=some s∧l=l.take (l.length - 1)++[s]∧j6 none l=some s:=by
 have h0:0 < l.length:=List.length_pos_iff.2 h;refine⟨l[l.length - 1]'(by omega),getElem?_eq_getElem _,?_,?_⟩
 ·have:=eG (l:=l) (k:=l.length - 1) (getElem?_eq_getElem (by omega))
  rwa [Nat.sub_add_cancel (by omega),take_length]at this
 ·exact pS none (getElem?_eq_getElem _)
theorem xz(l:Lg):l.start≤tQ l:=by
 unfold tQ yk;split <;> omega
theorem pF{l:Lg}(h:gj l=0):∃ s,l.segs[l.segs.length - 1]?=some s∧l.segs=l.segs.take (l.segs.length - 1)++[s]∧xV l=s∧tQ l=max l.start (j8 s)∧zB l.limit (j6 none (l.segs.take (l.segs.length - 1))) s:=by
 obtain⟨h1,h2,h3,h4⟩:=iS h;obtain⟨s,e1,e2,e3⟩:=kz h2;refine⟨s,e1,e2,by rw[xV,e3];rfl,by rw[tQ,e3];rfl,?_⟩;rw[e2,l9]at h3;exact h3.2.1
theorem lY{l:Lg}{b:Batch}(h:(jV l b).2=0):(gj l=0∧fF b=0∧tQ l≤b.base∧((ek b).length:Int)≤l.limit)∧((jV l b).1.limit=l.limit∧(jV l b).1.start=l.start)∧gj (jV l b).1=0∧tQ (jV l b).1=b.last+1∧bsS (jV l b).1.segs=bsS l.segs++[b]∧((jV l b).1.segs.length=l.segs.length∨(jV l b).1.segs.length=l.segs.length+1):=by
 have hge:=xz l;unfold jV at h ⊢;by_cases k0:¬ gj l=0
 ·rw[if_neg k0]at h;exact absurd h k0
 have k0:=Decidable.not_not.1 k0;rw[if_pos k0]at h ⊢;by_cases k1:¬ fF b=0
 ·rw[if_neg k1]at h;exact absurd h k1
 have k1:=Decidable.not_not.1 k1;rw[if_pos k1]at h ⊢;by_cases k2:b.base < tQ l
 ·rw[if_pos k2]at h;cases h
 rw[if_neg k2]at h ⊢;by_cases k3:l.limit < ((ek b).length:Int)
 ·rw[if_pos k3]at h;cases h
 rw[if_neg k3]at h ⊢;refine⟨⟨k0,k1,by omega,by omega⟩,?_⟩;obtain⟨c1,c2,c3,c4⟩:=iS k0;obtain⟨s,e1,e2,e3,e4,e5⟩:=pF k0;have hb:=wD k1;rw[e3]at h ⊢;have hap:=AV e5.1.1 (wS c1) k1 (show j8 s≤b.base by omega);have hlen:0 < l.segs.length:=List.length_pos_iff.2 c2;have hok:=c3;rw[e2,l9]at hok;by_cases k4:l.limit < ((s.bytes.length+(ek b).length:Nat):Int)
 ·rw[if_pos k4]at hap;rw[hap]at h ⊢;rw[if_neg (by decide)]at h ⊢;by_cases k5:l.segs.length=256
  ·rw[if_pos k5]at h;cases h
  rw[if_neg k5]at h ⊢;refine⟨⟨rfl,rfl⟩,rG c1 (by simp) ?_ (by simp;omega),?_,?_,.inr (by simp)⟩
  ·show okS l.limit none (l.segs++[⟨b.base,ek b⟩]);rw[l9];refine⟨c3,⟨⟨wr k1,by show((ek b).length:Int)≤_;omega⟩,fun a ha=>?_⟩,trivial⟩;rw[pS none e1]at ha;cases ha;have hwb:s.base < b.base:=by
    have h6:=(gi.1 e5.1.1).1;have h7:=qI h6;obtain⟨r,hs⟩:=fx s;have hne:fe s≠[]:=fun hh=>by
     rw[hh]at h7;have:s.bytes.length=0:=by rw[h7];rfl
     omega
    obtain⟨x,bs,hx⟩:=List.exists_cons_of_ne_nil hne;have ho:=hs.ord;have hk:=hs.ok;rw[hx]at ho hk;have h8:=wD (hk x (.head _));have h9:=r7 ho.2 (fun z hz=>hk z (.tail _ hz));have h10:j8 s=fQ (x.last+1) bs:=by rw[j8,hx];rfl
    have h11:=ho.1;omega
   exact sH.2 ⟨hwb,by show j8 s≤b.base;omega⟩
  ·show yk l.start (j6 none (l.segs++[_]))=_;rw[mZ];show max l.start (j8 ⟨b.base,ek b⟩)=_;rw[Do k1];omega
  ·show bsS (l.segs++[_])=_;rw[nz];congr 1;rw[kA,oQ,oE k1];rfl
 ·rw[if_neg k4]at hap;rw[hap]at h ⊢;rw[if_pos rfl];obtain⟨g1,g2,g3⟩:=FM e5.1.1 k1 (show j8 s≤b.base by omega);have hl2:(l.segs.take (l.segs.length - 1)++[(⟨s.base,s.bytes++ek b⟩:Sg)]).length=l.segs.length:=by
   rw[length_append,List.length_take];simp only[List.length_cons,List.length_nil];omega
  refine⟨⟨rfl,rfl⟩,rG c1 (by simp) ?_ (by show List.length _≤_;rw[hl2];omega),?_,?_,.inl hl2⟩
  ·show okS l.limit none (_++[_]);rw[l9];refine⟨hok.1,⟨⟨g2,by show((s.bytes++ek b).length:Int)≤_;rw[length_append];omega⟩,fun a ha=>?_⟩,trivial⟩;exact e5.2 a ha
  ·show yk l.start (j6 none (_++[_]))=_;rw[mZ];show max l.start (j8 ⟨s.base,s.bytes++ek b⟩)=_;rw[g3];omega
  ·show bsS (_++[_])=_;rw[nz,kA,oQ,append_nil,g1,← List.append_assoc];congr 1
   conv=>rhs;rw[e2]
   rw[nz,kA,oQ,append_nil]
theorem zJ{l:Lg}{b:Batch}(h:(jV l b).2=0):Ge (jV l b).1=Ge l++[b]:=by
 obtain⟨⟨-,h1,h2,-⟩,⟨h3,h4⟩,-,-,h5,-⟩:=lY h;have:=xz l;have:=wD h1;unfold Ge;rw[h4,h5,jp];congr 1;unfold gt;rw[List.filter_cons,if_pos (by simp;omega)];rfl
theorem By{l:Lg}{b:Batch}(h:¬ (jV l b).2=0):(jV l b).1=gQ:=by
 unfold jV at h ⊢
 repeat' split
 all_goals first | rfl | skip
 all_goals simp_all
theorem xJ{s:Sg}(h:fE s=true):(fG (fe s)).length=s.bytes.length:=(gi.1 h).1
theorem vk{limit:Int}:∀ {l:List Sg} {p:Option Sg},okS limit p l→(fG (bsS l)).length=fW l
 | [],_,_=>rfl
 | s :: l,p,h=>by
  rw[kA,lA,length_append,xJ h.1.1.1,fW,vk h.2]
theorem vh{limit:Int}:∀ {l:List Sg} {p:Option Sg},okS limit p l→(fW l:Int)≤limit * l.length
 | [],_,_=>by simp[fW]
 | s :: l,p,h=>by
  have h1:=vh h.2;have h2:=h.1.1.2;rw[fW,List.length_cons];push_cast;rw[Int.mul_add];omega
theorem xK(off:Int)(l:J4):(fG (gt off l)).length≤(fG l).length:=by
 induction l with
 | nil=>exact Nat.le_refl _
 | cons b l ih =>
  unfold gt at ih ⊢;rw[List.filter_cons];split
  ·simp only[gW,length_append];omega
  ·simp only[gW,length_append];omega
theorem He{s:Sg}(h:fE s=true):mD s=(s,0):=by
 have:=(gi.1 h).1;unfold mD;rw[this,take_length];cases s;simp
theorem tn{limit:Int}:∀ {l m:List Sg} {p:Option Sg},(∀ a,p=some a→fE a=true)→okS limit p l→fJ p (l++m)=l++fJ (j6 p l) m
 | [],m,p,_,_=>rfl
 | s :: l,m,p,hp,h=>by
  have hk:jv p s=true:=by
   cases p with
   | none=>rfl
   | some a=>simp[jv,hp a rfl,h.1.2 a rfl]
  rw[List.cons_append,fJ,if_pos hk,He h.1.1.1,tn (fun a ha=>by cases ha;exact h.1.1.1) h.2];rfl
theorem CO{limit:Int}{l:List Sg}(h:okS limit none l):fJ none l=l:=by
 have:=tn (m:=[]) (fun a ha=>by cases ha) h;rw[append_nil]at this;rw[this,fJ,append_nil]
theorem zQ{l:Lg}(h:gj l=0):lB l=true:=by
 obtain⟨h1,h2,h3,h4⟩:=iS h;unfold lB;cases hs:l.segs with
 | nil=>exact absurd hs h2
 | cons s ss =>
  rw[hs]at h3;exact(gi.1 h3.1.1.1).2
theorem wu{l:Lg}(h:gj l=0):jc l=(l,0):=by
 obtain⟨h1,h2,h3,h4⟩:=iS h;unfold jc;rw[if_pos ⟨h1,zQ h⟩,CO h3];simp
theorem yP(s:Sg):fe (mD s).1=fe s∧fY (mD s).1=(mD s).1.bytes.length∧(mD s).1.bytes.length=fY s:=by
 obtain⟨r,h⟩:=fx s;have h1:=ya h (fe s).length;rw[take_length]at h1;have h2:=lp s;have h3:(mD s).1.bytes.length=fY s:=by
  unfold mD;rw[List.length_take];omega
 exact⟨h1,by rw[h3];show(fG (fe (mD s).1)).length=_;rw[show fe (mD s).1=fe s from h1];rfl,h3⟩
theorem Cx{limit start:Int}(h:kO limit start=true):gj ⟨limit,start,[⟨start,[]⟩]⟩=0:=by
 have:=(gZ.1 h);exact rG h (by simp) ⟨⟨⟨gi.2 ⟨rfl,this.2⟩,by show(0:Int)≤limit;omega⟩,fun a ha=>by cases ha⟩,trivial⟩ (by simp)
theorem tF{α:Type}{l:List α}{k:Nat}{x:α}(h:l[k]?=some x):l=l.take k++x :: l.drop (k+1):=by
 obtain⟨h1,h2⟩:=List.getElem?_eq_some_iff.1 h
 conv=>lhs;rw[← List.take_append_drop k l,List.drop_eq_getElem_cons h1,h2]
theorem F142:Fun Tryz.prog 142 9 v142 c142 o142:=Fun.mkA Tryz.func142 Tryz.ntmps142
theorem F103:Fun Tryz.prog 103 15 v103 c103 o103:=Fun.mkA Tryz.func103 Tryz.ntmps103
theorem F112:Fun Tryz.prog 112 20 v112 c112 o112:=Fun.mkA Tryz.func112 Tryz.ntmps112
theorem F113:Fun Tryz.prog 113 17 v113 c113 o113:=Fun.mkA Tryz.func113 Tryz.ntmps113
theorem F115:Fun Tryz.prog 115 7 v115 c115 o115:=Fun.mkA Tryz.func115 Tryz.ntmps115
theorem F63:Fun Tryz.prog 63 13 v63 c63 o63:=Fun.mkA Tryz.func63 Tryz.ntmps63
theorem F206:Fun Tryz.prog 206 15 v206 c206 o206:=Fun.mkA Tryz.func206 Tryz.ntmps206
theorem F62:Fun Tryz.prog 62 56 v62 c62 o62:=Fun.mkA Tryz.func62 Tryz.ntmps62
theorem F22:Fun Tryz.prog 22 8 v22 c22 o22:=Fun.mkA Tryz.func22 Tryz.ntmps22
def eM(l:Lg)(A:JY)(c:Nat):JU:=[.int .i64 l.limit,.int .i64 l.start,.slice A l.segs.length c]
def LE(G:JT)(l:Lg)(cs:JU):Prop:=∃ A c,cs=eM l A c∧SlV G (SE G) 2 (.slice A l.segs.length c) l.segs∧I64 l.limit∧I64 l.start
def smL(l:List Sg):Prop:=∀ s∈l,s.bytes.length≤100000
theorem SlSE.le{G G':JT}(hg:Gle G G'){v:Value}{l:List Sg}(h:SlV G (SE G) 2 v l):SlV G' (SE G') 2 v l:=by
 obtain⟨A,c,h1,h2,h3,h4⟩:=h;exact⟨A,c,h1,h2,h3,h4.le hg fun _ _ h=>SE.le hg h⟩
theorem LE.le{G G':JT}(hg:Gle G G'){l:Lg}{cs:JU}(h:LE G l cs):LE G' l cs:=by
 obtain⟨A,c,h1,h2,h3⟩:=h;exact⟨A,c,h1,SlSE.le hg h2,h3⟩
theorem m9(n:Int)(G:JT):FnS Tryz.prog 142 #[.int .i64 n] G (.bool (inO n)):=by
 refine F142.fnS (by simp) (d7 ?_);unfold c142;intros;refine gR 0 0 c142r0.eq_1 ?_;intros;refine gR 3 9 c142r1.eq_1 ?_;refine gdD (fun h=>?_) (fun h=>?_)
 ·refine sI ?_;intros;refine rW ?_;rw[inO,decide_eq_true h,Bool.true_and]
 ·refine sI ?_;intros;refine rW ?_;rw[inO,decide_eq_false h,Bool.false_and]
theorem wY(a b:Int)(G:JT):FnS Tryz.prog 103 #[.int .i64 a,.int .i64 b] G (.bool (kO a b)):=by
 refine F103.fnS (by simp) (d7 ?_);unfold c103;intros;refine gR 0 0 c103r0.eq_1 ?_;intros;refine gR 5 15 c103r1.eq_1 ?_;refine gd (fun h=>?_) (fun h=>?_)
 ·refine sI ?_;refine gd (fun h2=>?_) (fun h2=>?_)
  ·refine sI ?_;refine fK (m9 _ _ _ _) ?_;intros;refine rW ?_;rw[kO,h,h2,Bool.true_and,Bool.true_and]
  ·refine sI ?_;intros;refine rW ?_;rw[kO,h2,Bool.and_false,Bool.false_and]
 ·refine sI ?_;intros;refine rW ?_;rw[kO,h,Bool.false_and,Bool.false_and]
theorem sS(s:Sg)(cs:JU)(G:JT)(hs:SE G s cs)(hb:s.bytes.length≤1000000):FnS Tryz.prog 112 #[.agg cs.toArray] G (.bool (fE s)):=by
 have hscan:=oW s cs G hs hb;obtain⟨A,c,rfl,hl,hi⟩:=hs;have hd:decide (((fY s:Nat):Int)=((s.bytes.length:Nat):Int))=decide (fY s=s.bytes.length):=decide_eq_decide.2 (by omega);refine F112.fnS (by simp) (d7 ?_);unfold c112;unfold fX at hscan ⊢;intros;refine gR 0 0 c112r0.eq_1 ?_;intros;refine gR 5 10 c112r1.eq_1 ?_;refine(hscan _ _).mono ?_;rintro r h' ⟨G1,L',rfl,hg1,u,zc,rfl,hzc,rfl⟩;refine sI ?_
 intros;refine gR 11 20 c112r2.eq_1 ?_;refine fK (m9 _ _ _ _) ?_;refine gd (fun k1=>?_) (fun k1=>?_)
 ·refine sJ @hd ?_;intros;refine rW ?_;rw[fE,k1,Bool.true_and]
 ·refine sI ?_;intros;refine rW ?_;rw[fE,k1,Bool.false_and]
theorem ot(s t:Sg)(cs ds:JU)(G:JT)(hs:SE G s cs)(ht:SE G t ds)(hb:s.bytes.length≤1000000):FnS Tryz.prog 113 #[.agg cs.toArray,.agg ds.toArray] G (.bool (nX s t)):=by
 have hend:=wG s cs G hs hb;obtain⟨A,c,rfl,hl,hi⟩:=hs;obtain⟨B,d,rfl,hm,hj⟩:=ht;refine F113.fnS (by simp) (d7 ?_);unfold c113;unfold fX at hend ⊢;intros;refine gR 0 0 c113r0.eq_1 ?_;intros;refine dT ?_;refine ly _ J9 (by decide) ?_;refine sJ c113r1.eq_1 ?_;refine gx (fun k1=>?_) (fun k1=>?_)
 ·refine sI ?_;refine fK (hend _ _) ?_;intros;refine rW ?_;rw[nX,k1,Bool.true_and]
 ·refine sI ?_;intros;refine rW ?_;rw[nX,k1,Bool.false_and]
theorem vc(l:Lg)(A:JY)(c:Nat)(G:JT)(hl:l.segs.length≤1000000):FnS Tryz.prog 115 #[.agg #[.int .i64 l.limit,.int .i64 l.start,.slice A l.segs.length c]] G (.int .i64 ((l.segs.length:Int) - 1)):=by
 have hw:IntKind.i64.wrap ((l.segs.length:Int) - 1)=(l.segs.length:Int) - 1:=by rw[eh] <;> omega
 refine F115.fnS (by simp) (d7 ?_);unfold c115;intros;refine gR 0 0 c115r0.eq_1 ?_;intros;refine gR2 4 7 c115r1.eq_1 @hw ?_;intros;refine rV ?_;simp only[push_cast,Nat.reduceBEq]
theorem uU(l:Lg)(cs:JU)(G:JT)(hl:LE G l cs)(hb:smL l.segs)(hn:l.segs≠[])(hm:l.segs.length≤1000000):FnS Tryz.prog 63 #[.agg cs.toArray] G (.int .i64 (tQ l)):=by
 obtain⟨A,c,rfl,hsl,hi,hj⟩:=hl;obtain⟨A0,c0,he,hc,hmx,hA⟩:=hsl;cases he;obtain⟨s,e1,e2,e3⟩:=kz hn;have h0:0 < l.segs.length:=List.length_pos_iff.2 hn;refine F63.fnS (by simp) (d7 ?_);unfold c63 eM;intros;refine gR 0 0 c63r0.eq_1 ?_;intros;refine dT ?_;refine ly _ J9 (by decide) ?_;refine sJ c63r1.eq_1 ?_;refine fK (vc l A c _ hm _ _) ?_;refine hA.y_ld e1 (by omega) rfl ?_;rintro a1 ha1 cs hse
 have hend:=wG s cs G hse (by have:=hb s (mem_of_getElem? e1);omega);obtain⟨B,d,rfl,-⟩:=hse;unfold fX at hend ⊢;refine sI ?_;refine fK (hend _ _) ?_;intros;refine rW ?_;rw[tQ,e3];rfl
theorem tY(l:Lg)(off:Int)(cs:JU)(G:JT)(hl:LE G l cs)(hb:smL l.segs)(hn:l.segs≠[])(hm:l.segs.length≤1000000):FnS Tryz.prog 206 #[.agg cs.toArray,.int .i64 off] G (.bool (Aq l off)):=by
 have hend:=uU l cs G hl hb hn hm;obtain⟨A,c,rfl,hsl,hi,hj⟩:=hl;refine F206.fnS (by simp) (d7 ?_);unfold c206;unfold eM at hend ⊢;intros;refine gR 0 0 c206r0.eq_1 ?_;intros;refine gR 6 15 c206r1.eq_1 ?_;refine gd (fun k1=>?_) (fun k1=>?_)
 ·refine sI ?_;refine fK (hend _ _) ?_;intros;refine rW ?_;rw[Aq,k1,Bool.true_and]
 ·refine sI ?_;intros;refine rW ?_;rw[Aq,k1,Bool.false_and]
theorem lb{l:List Sg}{k:Nat}{a:Sg}(hk:0 < k)(h:l[k - 1]?=some a):j6 none (l.take k)=some a:=by
 have:=nh none h
 rwa [Nat.sub_add_cancel hk]at this
theorem wQ{l:Lg}{k:Nat}{s:Sg}(hs:l.segs[k]?=some s)(h:¬ zB l.limit (j6 none (l.segs.take k)) s):gj l=1:=by
 unfold gj;rw[if_neg];rintro⟨-,-,h3⟩;exact h ((oP hs).1 (C4 h3 (k+1))).2
theorem mg(l:Lg)(cs:JU)(G:JT)(hl:LE G l cs)(hb:smL l.segs):FnS Tryz.prog 62 #[.agg cs.toArray] G (.int .i64 (gj l)):=by
 obtain⟨A,c,rfl,hsl,hi,hj⟩:=hl;obtain⟨A0,c0,he,hc,hmx,hA⟩:=hsl;cases he;refine F62.fnS (by simp) (d7 ?_);unfold c62 eM;intros;refine gR 0 0 c62r0.eq_1 ?_;intros;refine gR 6 16 c62r1.eq_1 ?_;refine fK (wY _ _ _ _ _) ?_;refine gd (fun k1=>?_) (fun k1=>?_)
 ·have k1:kO l.limit l.start=false:=by simpa using k1
  refine sI ?_;intros;refine gC ?_;intros;refine gR 0 0 c62r2.eq_1 ?_;intros;refine rW ?_;rw[gj,if_neg (by rw[k1];simp)]
 have k1:kO l.limit l.start=true:=by simpa using k1
 refine sI ?_;intros;refine gC ?_;refine gb (fun k2=>?_) (fun k2=>?_)
 ·have k2:l.segs=[]:=List.eq_nil_of_length_eq_zero (by have:=Kb k2;omega);intros;refine gR 0 0 c62r2.eq_1 ?_;intros;refine rW ?_;rw[gj,if_neg (by rw[k2];simp)]
 have k2:l.segs≠[]:=fun h=>by rw[h]at k2;simp at k2
 intros;refine gN ?_;intros;refine gR 0 0 c62r3.eq_1 ?_;intros;refine eK (fun e h=>okS l.limit none l.segs∧h=⟨G,[.reg 1 [.int .i64 l.limit,.int .i64 l.start,.slice A l.segs.length c]],[]⟩) ?_ ?_
 ·intros;refine dT ?_;refine ej (fun e h=>∃ k:Nat,(k≤l.segs.length∧okS l.limit none (l.segs.take k))∧e 20=.int .i64 k∧e 19=.int .i64 l.segs.length∧e 18=.slice A l.segs.length c∧h=⟨G,[.reg 1 [.int .i64 l.limit,.int .i64 l.start,.slice A l.segs.length c]],[]⟩) (fun e h=>l.segs.length - iv (e 20)) ?_ ?_
  ·exact⟨0,⟨Nat.zero_le _,trivial⟩,eE,eE,eE,rfl⟩
  rintro e h ⟨k,⟨hk,hok⟩,e20,e19,e18,rfl⟩;refine dX [18,19,20] ?_;refine sJ3 @e18 @e19 @e20 ?_;intros;refine gR 0 0 c62r4.eq_1 ?_;intros;refine gC ?_;refine gb (fun ht=>?_) (fun ht=>?_)
  ·have ht:k < l.segs.length:=by have:=Kb ht;omega
   have hw:=eY k c (by omega) hmx;obtain⟨s,hs⟩:∃ s,l.segs[k]?=some s:=⟨l.segs[k],getElem?_eq_getElem (by omega)⟩;have hbs:=hb s (mem_of_getElem? hs);intros;refine gN ?_;intros;refine gR 22 25 c62r5.eq_1 ?_;refine hA.x_ld hs rfl rfl ?_;rintro a1 ha1 cs hse;have hse0:=hse;have hwh:=sS s cs G hse (by omega);obtain⟨B,d,rfl,hsb,hsi⟩:=hse;unfold fX at hwh hse0 ⊢;refine sI ?_
   have hno:∀ (fr:J0) (e:Env) (X:JW),¬ zB l.limit (j6 none (l.segs.take k)) s→go none Tryz.prog 56 v62.1 v62.2 (fB o62 fun v h=>v=.int .i64 (gj l)) (Td.s ((SC.reg false c62r7).seq .ret) :: fr) e ⟨G,X,[]⟩:=fun fr e X hn=>by
    intros;refine gR 0 0 c62r7.eq_1 ?_;intros;refine rW ?_;rw[wQ hs hn]
   have hnx:zB l.limit (j6 none (l.segs.take k)) s→okS l.limit none (l.segs.take (k+1)):=fun h=>(oP hs).2 ⟨hok,h⟩
   intros;refine dT ?_;refine ly _ J9 (by decide) ?_;refine sJ c62r6.eq_1 ?_;refine gxD (fun k3=>?_) (fun k3=>?_)
   ·refine sI ?_;intros;refine gC ?_;exact hno _ _ _ fun h=>by have:=h.1.2;omega
   refine sI ?_;refine fK (hwh _ _) ?_;refine gx (fun k4=>?_) (fun k4=>?_)
   ·have k4:fE s=false:=by simpa using k4
    refine sI ?_;intros;refine gC ?_;exact hno _ _ _ fun h=>by have:=h.1.1;rw[k4]at this;cases this
   have k4:fE s=true:=by simpa using k4
   refine sI ?_;refine gx (fun k5=>?_) (fun k5=>?_)
   ·have k5:0 < k:=by have:=Kb k5;omega
    have hw1:IntKind.i64.wrap ((k:Int) - 1)=(k:Int) - 1:=by unfold maxLen at hmx;rw[eh] <;> omega
    obtain⟨p,hp⟩:∃ p,l.segs[k - 1]?=some p:=⟨l.segs[k - 1],getElem?_eq_getElem (by omega)⟩;have hbp:=hb p (mem_of_getElem? hp);have hep:=lb k5 hp;refine sJ @hw1 ?_;refine hA.y_ld hp (by omega) rfl ?_;rintro a2 ha2 cs2 hpe;have hfo:=ot p s cs2 _ G hpe hse0 (by omega);obtain⟨B2,d2,rfl,-⟩:=hpe;unfold fX at hfo ⊢;refine sI ?_;refine fK (hfo _ _) ?_;intros;refine gC ?_
    refine gb (fun k6=>?_) (fun k6=>?_)
    ·have k6:nX p s=false:=by simpa using k6
     exact hno _ _ _ fun h=>by have:=h.2 p hep;rw[k6]at this;cases this
    ·have k6:nX p s=true:=by simpa using k6
     intros;refine gN ?_;refine dW (dY (L':=[.reg 1 [.int .i64 l.limit,.int .i64 l.start,.slice A l.segs.length c]]) (.cons _ J9)) ?_;intros;refine gR2 51 52 c62r8.eq_1 @hw ?_;intros;refine dT ?_;refine eC ⟨⟨k+1,⟨by omega,hnx ⟨⟨k4,by omega⟩,fun a ha=>by rw[hep]at ha;cases ha;exact k6⟩⟩,eE,eE,eE,rfl⟩,?_⟩;refine sI ?_;omega
   ·have k5:k=0:=by have:=Kc k5;omega
    refine sI ?_;intros;refine gC ?_;refine dW (dY (L':=[.reg 1 [.int .i64 l.limit,.int .i64 l.start,.slice A l.segs.length c]]) (.cons _ J9)) ?_;intros;refine gR2 51 52 c62r8.eq_1 @hw ?_;intros;refine dT ?_;refine eC ⟨⟨k+1,⟨by omega,hnx ⟨⟨k4,by omega⟩,fun a ha=>by rw[k5]at ha;cases ha⟩⟩,eE,eE,eE,rfl⟩,?_⟩;refine sI ?_;omega
  ·have ht:k=l.segs.length:=by have:=Kc ht;omega
   subst ht;rw[take_length]at hok;refine eg ?_;refine sI ?_;intros;refine gN ?_;exact eC ⟨hok,rfl⟩
 rintro e h ⟨hok,rfl⟩;refine dX [] ?_;intros;have hd:decide ((l.segs.length:Int) > 256)=decide (256 < l.segs.length):=decide_eq_decide.2 (by omega);intros;refine gR 53 55 c62r9.eq_1 ?_;intros;refine gC ?_;refine gbD (fun k3=>?_) (fun k3=>?_)
 ·intros;refine gR 0 0 c62r10.eq_1 ?_;intros;refine rW ?_;rw[gj,if_pos ⟨k1,k2,hok⟩,if_pos (by omega)]
 ·intros;refine gN ?_;intros;refine gR 0 0 c62r11.eq_1 ?_;intros;refine rW ?_;rw[gj,if_pos ⟨k1,k2,hok⟩,if_neg (by omega)]
theorem pq(l:Lg)(cs:JU)(G:JT)(hl:LE G l cs)(hb:smL l.segs)(hm:l.segs.length≤1000000):FnS Tryz.prog 22 #[.agg cs.toArray] G (.int .i64 (fD l)):=by
 have hchk:=mg l cs G hl hb;have hend:=uU l cs G hl hb;obtain⟨A,c,rfl,hsl,hi,hj⟩:=hl;refine F22.fnS (by simp) (d7 ?_);unfold c22;unfold eM at hchk hend ⊢;intros;refine gR 0 0 c22r0.eq_1 ?_;intros;refine gR 3 5 c22r1.eq_1 ?_;refine fK (hchk _ _) ?_;intros;refine gC ?_;refine gb (fun k1=>?_) (fun k1=>?_)
 ·have k1:=Kb k1;intros;refine gR 0 0 c22r2.eq_1 ?_;intros;refine rW ?_;rw[fD,if_neg k1]
 ·have k1:gj l=0:=by simpa using k1
  intros;refine gN ?_;intros;refine gR 6 8 c22r3.eq_1 ?_;refine fK (hend (iS k1).2.1 hm _ _) ?_;intros;refine rW ?_;rw[fD,if_pos k1]
end Go.Proofs.YtpmofpekcbghnaaGreat
namespace Go.Proofs.YtpmofpekcbghnaaGreat
open Go Go.Kx Go.RowKit
open List (getElem?_eq_getElem mem_of_getElem? length_append take_length append_nil)
theorem uy(W:World):ia Tryz.prog W 31 (fun(l:List Sg) cs=>∃ A c,cs=[.slice A l.length c]∧l.length≤c∧c≤maxLen∧SlA (pm W) (SE (pm W)) 2 A l) :=
 iJ Tryz.underlying31 (by kernel_rfl) (vC W)
theorem uT(W:World):ia Tryz.prog W 33 (LE (pm W)):=fun H enc fuel cs x hx=>by
 obtain⟨hl,hf⟩:=iX Tryz.underlying33 (by kernel_rfl) (by kernel_rfl) hx;obtain⟨v0,_,_,c0,t0⟩:=hf 0 _ rfl;obtain⟨v1,_,_,c1,t1⟩:=hf 1 _ rfl;obtain⟨v2,_,_,c2,t2⟩:=hf 2 _ rfl;obtain⟨n0,e0,w0⟩:=(fU Tryz.underlying3).at_ t0;obtain⟨n1,e1,w1⟩:=(fU Tryz.underlying3).at_ t1;obtain⟨n2,A,c,e2,w2⟩:=(uy W).at_ t2;cases e0;cases e1;cases e2;refine⟨⟨n0,n1,n2⟩,A,c,?_,⟨A,c,rfl,w2⟩,jz w0,jz w1⟩
 match cs,hl with
 | [_,_,_],_=>cases c0;cases c1;cases c2;rfl
end Go.Proofs.YtpmofpekcbghnaaGreat
namespace Go.Proofs.YtpmofpekcbghnaaGreat
open Go Go.Kx
open List (getElem?_eq_getElem mem_of_getElem? length_append take_length append_nil)
theorem F86:Fun Tryz.prog 86 8 v86 c86 o86:=Fun.mkA Tryz.func86 Tryz.ntmps86
theorem F122:Fun Tryz.prog 122 11 v122 c122 o122:=Fun.mkA Tryz.func122 Tryz.ntmps122
theorem F46:Fun Tryz.prog 46 17 v46 c46 o46:=Fun.mkA Tryz.func46 Tryz.ntmps46
theorem F69:Fun Tryz.prog 69 89 v69 c69 o69:=Fun.mkA Tryz.func69 Tryz.ntmps69
def LgR(p:Lg × Int)(G:JT)(r:Value):Prop:=∃ cs,r=.tuple #[.agg cs.toArray,.int .i64 p.2]∧LE G p.1 cs
theorem slN{α:Type}{G:JT}{E:α→JU→Prop}{sz:Nat}:SlV G E sz (.slice none 0 0) []:=⟨none,0,rfl,Nat.le_refl _,Nat.zero_le _,fun i x hx=>by simp at hx⟩
theorem iH:I64 0:=by unfold I64;decide
theorem gB{p:Int}{G:JT}:LgR (gQ,p) G (.tuple #[.agg #[.int .i64 0,.int .i64 0,.slice none 0 0],.int .i64 p]):=⟨_,rfl,none,0,rfl,slN,iH,iH⟩
theorem SE1:∀ {G:JT} (x:Sg) cs,SE G x cs→∀ u∈cs,u.oneCell'=true:=fun x cs h u hu=>by
 obtain⟨A,c,rfl,-⟩:=h;simp[fX]at hu;rcases hu with rfl | rfl <;> rfl
theorem ni(l:List Sg)(v:Value)(G:JT)(hl:SlV G (SE G) 2 v l)(hb:l.length≤100000):FnO Tryz.prog 86 #[v] G [] (fun _ L' r=>wU (SE G) 120 2 l L' r):=by
 refine F86.fnO (by simp) dS (d7 ?_);have hl0:=hl;obtain⟨A,c,rfl,hc,hm,hA⟩:=hl;unfold c86;intros;refine gR 0 0 c86r0.eq_1 ?_;intros;refine gR 3 4 c86r1.eq_1 ?_;intros;refine gC ?_;refine gb (fun ht=>?_) (fun ht=>?_)
 ·intros;refine gR 0 0 c86r2.eq_1 ?_;intros;refine dT ?_;have hA0:l=[]:=by
   match l,hA with
   | [],_=>rfl
   | x :: xs,hA=>obtain⟨a,_,ha,_⟩:=hA 0 x rfl;subst ha;cases ht
  subst hA0;refine dW (ew none 120 2) ?_;refine ea (ee _ rfl J9 (dV dS) ?_);exact⟨[],.nil,rfl⟩
 ·intros;refine gN ?_;intros;refine gR 5 8 c86r3.eq_1 ?_;intro b hb';refine ki (.inr ⟨⟨_,rfl⟩,rfl,rfl,rfl,rfl⟩) hl0 rfl SE1 ⟨by omega,by unfold maxLen;omega⟩ fun ys A c hc=>?_
  simp only[Nat.zero_add];refine sI ?_;intros;refine dT ?_;refine ea (ee _ rfl J9 (dV dS) ?_);exact⟨ys,hc,rfl⟩
theorem jh{α:Type}{P:Program}{f:FuncId}{args:Array Value}{G:JT}{E:α→JU→Prop}{et sz:Nat}{zs:List α}(hf:FnO P f args G [] (fun _ L' r=>wU E et sz zs L' r)):
  FnO P f args G [] (fun _ L' r=>∃ A c ys,r=.slice A zs.length c∧(zs.length≤c∧c≤maxLen)∧Cells E sz zs ys∧L'=[.row r et sz zs.length ys]):=fun L D =>
 (hf L D).gx fun v h' ⟨G',L',he,hg,ys,hc,hL⟩=>by
  subst he hL;exact(gG (.head _)).mono fun h' ⟨h1,A,c,h2,h3,h4⟩=>⟨G',_,h1,hg,A,c,ys,h2,⟨h3,h4⟩,hc,rfl⟩
theorem mc(a b:Int)(B C:JY)(m d m' d':Nat)(G:JT):FnS Tryz.prog 122 #[.agg #[.int .i64 a,.int .i64 b,.slice B m d],.slice C m' d'] G (.agg #[.int .i64 a,.int .i64 b,.slice C m' d']):=by
 refine F122.fnS (by simp) (d7 ?_);unfold c122;intros;refine gR 0 0 c122r0.eq_1 ?_;intros;refine gR 6 11 c122r1.eq_1 ?_;intros;refine rV ?_;simp only[push_cast,Nat.reduceBEq]
theorem Jd{G:JT}{A:JY}{l:List Sg}(h:SlA G (SE G) 2 A l):∀ s∈l,I64 s.base:=fun s hs=>by
 obtain⟨i,hi⟩:=List.mem_iff_getElem?.1 hs;obtain⟨a,cs,_,_,⟨_,_,_,_,h⟩,_⟩:=h i s hi;exact h
theorem I8{α:Type}{E:α→JU→Prop}{P:Program}{h:H}{d sz et nb:Nat}{l:JV}{e:Env}{K:J7}{u:Value}{b:Nat}{zs:List α}{zc cs:JU}{L2:JW}{x:α}(hL:h.L=.row u et sz zs.length zc :: .row (.slice (some ⟨b,0,none⟩) 1 1) et sz 1 cs :: L2)
  (hE:E x cs) (hl:cs.length=sz) (h1:∀ u∈cs,u.oneCell'=true) (hc:Cells E sz zs zc) (hz:zs.length≤1000000) (hnb:nb≤1000)
  (hk:∀ A' c' zc',Cells E sz (zs++[x]) zc'→kR P l d e K (.slice A' (zs++[x]).length c') ⟨h.G,.row (.slice A' (zs++[x]).length c') et sz (zs++[x]).length zc' :: .row (.slice (some ⟨b,0,none⟩) 1 1) et sz 1 cs :: L2,h.D⟩) :
  apX P u (.slice (some ⟨b,0,none⟩) 1 1) et sz nb d l e h K:=by
 refine⟨[],zs.length,zc,.row (.slice (some ⟨b,0,none⟩) 1 1) et sz 1 cs :: L2,1,cs,.inl hL,li (h:=h) (by rw[hL];exact .tail _ (.head _)) h1 (by rw[hl,Nat.one_mul]),⟨?_,by unfold maxLen;omega⟩,fun A' c'=>?_⟩
 ·have:(zs.length+1) * nb≤1000001 * 1000:=Nat.mul_le_mul (by omega) hnb;omega
 ·have:=hk A' c' (zc++cs) (hc.app (.one hE hl));simp only[length_append,List.length_cons,List.length_nil,Nat.zero_add]at this;exact this
theorem qL{P:Program}{f:FuncId}{args:Array Value}{h:H}{R:Value→H→Prop}{M:H→Prop}(hE:ij P f)(hg:fa h M)(hc:∀ h',M h'→eP P f args h' R):eP P f args h R :=
 ⟨hE,fun β w hs=>by
  obtain⟨h',m,s1,t1,d1,r1⟩:=hg β w hs
  exact((hc h' m).2 β w s1).mono fun _ _ ⟨v,h2,a,⟨b1,b2⟩,c,d,r⟩=>⟨v,h2,a,⟨b1.trans d1,r1.trans b2⟩,c,t1.trans d,r⟩⟩
theorem we{a b:Int}(h:kO a b=true):I64 a∧I64 b:=by
 have:=gZ.1 h;have h2:=ib.1 this.2;constructor <;> (unfold I64;omega)
theorem Df(limit start:Int)(G:JT):FnD Tryz.prog 46 #[.int .i64 limit,.int .i64 start] G (LgR (pL limit start)):=by
 refine F46.fnD (by simp) (d7 ?_);unfold c46;intros;refine gR 0 0 c46r0.eq_1 ?_;intros;refine gR 6 9 c46r1.eq_1 ?_;refine fK (wY _ _ _ _ _) ?_;intros;refine gC ?_;refine gb (fun h=>?_) (fun h=>?_)
 ·have h:kO limit start=false:=by simpa using h
  intros;refine gR 10 11 c46r2.eq_1 ?_;intros;refine rW ?_;rw[pL,h];exact gB
 ·have h:kO limit start=true:=by simpa using h
  have hi:=we h;intros;refine gN ?_;intros;refine gR 11 17 c46r3.eq_1 ?_;intro b hb;refine sI ?_;intros;try refine dU ?_
  refine eI (ef [] _ (by decide) (Cells.one (E:=SE G) (x:=⟨start,[]⟩) ⟨none,0,rfl,SB.nil,hi.2⟩ rfl)) ?_;rintro h' ⟨G1,rfl,hg1,hv1⟩;intros;refine rW ?_;rw[pL,if_pos h];exact⟨_,rfl,_,1,rfl,hv1.le (.refl _) fun _ _ h=>SE.le hg1 h,hi.1,hi.2⟩
set_option maxHeartbeats 1000000 in
theorem oq(l:Lg)(x:Batch)(cs ds:JU)(G:JT)(hl:LE G l cs)(hb:smL l.segs)(hm:l.segs.length≤1000)(hx:BE G x ds):
  FnD Tryz.prog 69 #[.agg cs.toArray,.agg ds.toArray] G (LgR (jV l x)):=by
 have hl0:=hl;have hx0:=hx;have hchk:=mg l cs G hl hb;have hend:=uU l cs G hl hb;have hbc:=lF x ds G hx;have hsz:=Dk x ds G hx;obtain⟨A,c,rfl,hsl,hi,hj⟩:=hl;obtain⟨A0,c0,he,hc,hmx,hA⟩:=hsl;cases he;obtain⟨B,d,rfl,-⟩:=hx;refine F69.fnD (by simp) (d7 ?_);unfold c69;unfold eM at hchk hend hl0 ⊢;unfold fo at hbc hsz hx0 ⊢;intros;refine gR 0 0 c69r0.eq_1 ?_;intros;refine gR 11 13 c69r1.eq_1 ?_
 refine fK (hchk _ _) ?_;intros;refine gR 13 14 c69r2.eq_1 ?_;intros
 refine eK (fun e h=>e 6=.int .i64 (if gj l=0 then fF x else gj l)∧h=⟨G,[.reg 4 [.int .i64 0,.int .i64 0,.slice none 0 0],.reg 3 [.int .i64 x.base,.int .i64 x.last,.int .i64 x.src,.int .i64 x.epoch,.int .i64 x.pid,.int .i64 x.gen,.int .i64 x.seq,.bool x.txn,.int .i64 x.ctl,.slice B x.recs.length d],.reg 2 [.int .i64 l.limit,.int .i64 l.start,.slice A l.segs.length c]],[]⟩) ?_ ?_
 ·intros;refine gC ?_;refine gbD (fun k1=>?_) (fun k1=>?_)
  ·intros;refine gR 15 17 c69r3.eq_1 ?_;refine fK (hbc _ _) ?_;intros;refine dT ?_;have h6:(if gj l=0 then fF x else gj l)=fF x:=if_pos k1;exact eC ⟨(eJ @h6),rfl⟩
  ·intros;refine dT ?_;have h6:(if gj l=0 then fF x else gj l)=gj l:=if_neg k1;exact eC ⟨(eJ @h6),rfl⟩
 rintro e h ⟨e6,rfl⟩;refine dX [6] ?_;refine sJ @e6 ?_;have hno:¬ (gj l=0∧fF x=0)→¬ (if gj l=0 then fF x else gj l)=0:=fun h h2=>by
  by_cases k:gj l=0
  ·rw[if_pos k]at h2;exact h ⟨k,h2⟩
  ·rw[if_neg k]at h2;exact k h2
 have happ:¬ (gj l=0∧fF x=0)→jV l x=(gQ,if gj l=0 then fF x else gj l):=fun h=>by
  unfold jV;by_cases k:gj l=0
  ·rw[if_pos k,if_pos k,if_neg fun h2=>h ⟨k,h2⟩]
  ·rw[if_neg k,if_neg k]
 have hyes:gj l=0∧fF x=0→(if gj l=0 then fF x else gj l)=0:=fun h=>by rw[if_pos h.1,h.2]
 generalize (if gj l=0 then fF x else gj l)=er at *;intros;intros;refine gR 18 20 c69r4.eq_1 ?_;intros;refine gC ?_;refine gb (fun k1=>?_) (fun k1=>?_)
 ·have k1:=Kb k1;intros;refine gR 20 22 c69r5.eq_1 ?_;intros;refine rW ?_;rw[happ fun h=>k1 (hyes h)];exact gB
 have k1:er=0:=by simpa using k1
 have k2:gj l=0∧fF x=0:=Decidable.not_not.1 fun h=>hno h k1
 clear happ hno hyes;obtain⟨k0,k1⟩:=k2;obtain⟨c1,c2,c3,c4⟩:=iS k0;obtain⟨s,e1,e2,e3,e4,e5⟩:=pF k0;have h0:0 < l.segs.length:=List.length_pos_iff.2 c2;have hz:Dd x=(ek x).length:=by rw[Dd,wo k1]
 rw[hz]at hsz;have hlim:=gZ.1 c1;refine sI ?_;intros;refine dT ?_;refine ly _ J9 (by decide) ?_;refine sJ c69r6.eq_1 ?_;refine fK (hend c2 (by omega) _ _) ?_;intros;refine gC ?_;refine gbD (fun k2=>?_) (fun k2=>?_)
 ·intros;refine gR 28 29 c69r7.eq_1 ?_;intros;refine rW ?_;rw[jV,if_pos k0,if_pos k1,if_pos k2];exact gB
 intros;refine gN ?_;intros;refine dT ?_;refine ly _ J9 (by decide) ?_;refine sJ c69r8.eq_1 ?_;refine fK (hsz _ _) ?_;intros;refine gC ?_;refine gbD (fun k3=>?_) (fun k3=>?_)
 ·intros;refine gR 35 36 c69r9.eq_1 ?_;intros;refine rW ?_;rw[jV,if_pos k0,if_pos k1,if_neg k2,if_pos k3];exact gB
 intros;refine gN ?_;intros;refine gR 36 38 c69r10.eq_1 ?_;refine fK (vc l A c _ (by omega) _ _) ?_;intros;intros;try refine dU ?_
 intros;try refine dU ?_
 refine eK (fun e h=>∃ (G':JT) (b8:Nat) (A3:JY) (c3:Nat),(Gle G G'∧SB G' (.slice A3 (jB s x l.limit).1.bytes.length c3) (jB s x l.limit).1.bytes)∧e 7=.int .i64 ((l.segs.length:Int) - 1)∧e 8=.pointer (some ⟨b8,0,none⟩)∧e 9=.int .i64 (jB s x l.limit).2∧h=⟨G',[.blk b8 [.int .i64 (jB s x l.limit).1.base,.slice A3 (jB s x l.limit).1.bytes.length c3],.reg 4 [.int .i64 0,.int .i64 0,.slice none 0 0],.reg 3 [.int .i64 x.base,.int .i64 x.last,.int .i64 x.src,.int .i64 x.epoch,.int .i64 x.pid,.int .i64 x.gen,.int .i64 x.seq,.bool x.txn,.int .i64 x.ctl,.slice B x.recs.length d],.reg 2 [.int .i64 l.limit,.int .i64 l.start,.slice A l.segs.length c]],[]⟩) ?_ ?_
 ·intros;refine dT ?_;refine yY _ J9 (by decide) ?_;refine sJ c69r11.eq_1 ?_;refine hA.y_ld e1 (by omega) rfl ?_;rintro a1 ha1 cs hse;have hapd:=qD s x l.limit cs _ G hse (hb s (mem_of_getElem? e1)) hx0 hi;obtain⟨B1,d1,rfl,hsb,hsi⟩:=hse;unfold fX at hapd ⊢;refine sI ?_;refine⟨?_,?_⟩
  ·refine(lS hapd _ _).mono ?_;rintro r h' ⟨G1,rfl,hg1,A3,c3,rfl,hs1⟩;refine sI ?_;refine⟨iZ hg1,?_⟩;intro b8 hb8;refine⟨ed hg1 (.cons _ J9),?_⟩;refine sI ?_;refine ei [] _ rfl (Nat.le_refl 2) ⟨rfl,rfl⟩ ?_;refine sI ?_;refine⟨ed hg1 (.cons _ J9),?_⟩;refine sI ?_;exact eC ⟨G1,b8,A3,c3,⟨hg1,hs1⟩,eE,eE,eE,rfl⟩
  ·intro b8 hb8;refine⟨ed Kd (.cons _ J9),?_⟩;refine(lS hapd _ _).mono ?_;rintro r h' ⟨G1,rfl,hg1,A3,c3,rfl,hs1⟩;refine sI ?_;refine⟨ed hg1 (.cons _ J9),?_⟩;refine sI ?_;refine ei [] _ rfl (Nat.le_refl 2) ⟨rfl,rfl⟩ ?_;refine sI ?_;refine⟨ed hg1 (.cons _ J9),?_⟩;refine sI ?_;exact eC ⟨G1,b8,A3,c3,⟨hg1,hs1⟩,eE,eE,eE,rfl⟩
 rintro e h ⟨G1,b8,A3,c3,⟨hg1,hs1⟩,e7,e8,e9,rfl⟩;refine dX [7,8,9] ?_;refine sJ3 @e7 @e8 @e9 ?_;intros;refine eI jy ?_;rintro h' ⟨G2,rfl,hg2,f8⟩;have hs1:=SB.le hs1 hg2;have hg1:=hg1.trans hg2;have ht1:((l.segs.length:Int) - 1).toNat=l.segs.length - 1:=by omega
 intros;refine gR 50 51 c69r12.eq_1 ?_;intros;refine gC ?_;refine gb (fun k4=>?_) (fun k4=>?_)
 ·have k4:(jB s x l.limit).2=0:=Kb k4;have hsl1:SlV G2 (SE G2) 2 (.slice A l.segs.length c) l.segs:=SlSE.le hg1 ⟨A,c,rfl,hc,hmx,hA⟩;have hpre:=SlV.pre (l.segs.length - 1) hsl1 (by omega);have hcl:=ni (l.segs.take (l.segs.length - 1)) _ G2 hpre (by simp;omega);have hlk:(l.segs.take (l.segs.length - 1)).length=l.segs.length - 1:=by simp
  have hxe:jV l x=(⟨l.limit,l.start,l.segs.take (l.segs.length - 1)++[(jB s x l.limit).1]⟩,0):=by
   rw[jV,if_pos k0,if_pos k1,if_neg k2,if_neg k3,e3,if_pos k4]
  have hse2:SE G2 (jB s x l.limit).1 [.int .i64 (jB s x l.limit).1.base,.slice A3 (jB s x l.limit).1.bytes.length c3]:=by
   refine⟨A3,c3,rfl,hs1,?_⟩;obtain⟨-,-,-,-,hh⟩:=wT k4;rw[hh];exact Jd hA s (mem_of_getElem? e1)
  rw[hxe];clear hxe;generalize (jB s x l.limit).1=s' at *;rw[k4];intros;try refine dU ?_
  intros;refine dT ?_;refine yY _ (.cons _ J9) (by decide) ?_;refine sJ c69r13.eq_1 ?_;refine⟨by omega,?_⟩;refine⟨_,⟨_,[.int .i64 s'.base,.slice A3 s'.bytes.length c3],rfl,rfl,rfl,fun j u hu=>.g (f8 j u hu)⟩,?_⟩;refine sJ @ht1 ?_;refine⟨?_,?_⟩
  ·refine(jh hcl _ _).mono ?_;rintro r h' ⟨G8,L',rfl,hg3,A4,c4,ys,rfl,-,hys,rfl⟩;refine sI ?_;refine⟨ed hg3 (.cons _ (.cons _ J9)),?_⟩;intro b9 hb9;refine⟨ed hg3 (.cons _ (.cons _ (.cons _ J9))),?_⟩;refine sI ?_;refine ts (L1:=[]) (L2:=[_,_,_]) (E:=SE G2) (x:=s') rfl hse2 rfl (by simp[Value.oneCell']) hys (by omega) (by omega) fun A' c' zc' hzc'=>?_
   dsimp only;generalize l.segs.take (l.segs.length - 1)++[s']=ZS at *;refine sI ?_;refine⟨ed hg3 (.cons _ (.cons _ (.cons _ J9))),?_⟩;refine fK (mc _ _ _ _ _ _ _ _ _ _ _) ?_;refine⟨ed hg3 (.cons _ (.cons _ (.cons _ J9))),?_⟩;refine sI ?_;refine⟨ed hg3 (.cons _ (.cons _ (.cons _ J9))),?_⟩;refine sI ?_;intros;refine dT ?_;refine eI (ef [_] _ (by decide) hzc') ?_;rintro h' ⟨G9,rfl,hg9,hv9⟩
   intros;refine rW ?_;exact⟨_,rfl,A',c',rfl,hv9.le (.refl _) fun _ _ h=>SE.le (hg3.trans hg9) h,hi,hj⟩
  ·intro b9 hb9;refine⟨ed Kd (.cons _ (.cons _ J9)),?_⟩;refine(jh hcl _ _).mono ?_;rintro r h' ⟨G8,L',rfl,hg3,A4,c4,ys,rfl,-,hys,rfl⟩;refine sI ?_;refine⟨ed hg3 (.cons _ (.cons _ (.cons _ J9))),?_⟩;refine sI ?_;refine I8 (L2:=[_,_,_]) (E:=SE G2) (x:=s') rfl hse2 rfl (by simp[Value.oneCell']) hys (by omega) (by omega) fun A' c' zc' hzc'=>?_
   dsimp only;generalize l.segs.take (l.segs.length - 1)++[s']=ZS at *;refine sI ?_;refine⟨ed hg3 (.cons _ (.cons _ (.cons _ J9))),?_⟩;refine fK (mc _ _ _ _ _ _ _ _ _ _ _) ?_;refine⟨ed hg3 (.cons _ (.cons _ (.cons _ J9))),?_⟩;refine sI ?_;refine⟨ed hg3 (.cons _ (.cons _ (.cons _ J9))),?_⟩;refine sI ?_;intros;refine dT ?_;refine eI (ef [] _ (by decide) hzc') ?_;rintro h' ⟨G9,rfl,hg9,hv9⟩
   intros;refine rW ?_;exact⟨_,rfl,A',c',rfl,hv9.le (.refl _) fun _ _ h=>SE.le (hg3.trans hg9) h,hi,hj⟩
 have k4:=Kc k4;clear hs1 f8;intros;refine gN ?_;have hd:decide ((l.segs.length:Int)=256)=decide (l.segs.length=256):=decide_eq_decide.2 (by omega);intros;refine gR2 63 65 c69r14.eq_1 @hd ?_;intros;refine gC ?_;refine gbD (fun k5=>?_) (fun k5=>?_)
 ·intros;refine gR 66 67 c69r15.eq_1 ?_;intros;refine rW ?_;rw[jV,if_pos k0,if_pos k1,if_neg k2,if_neg k3,e3,if_neg k4,if_pos k5];exact gB
 have hxe:jV l x=(⟨l.limit,l.start,l.segs++[⟨x.base,ek x⟩]⟩,0):=by
  rw[jV,if_pos k0,if_pos k1,if_neg k2,if_neg k3,e3,if_neg k4,if_neg k5]
 have hof:=El (wS c1) k1 (show((ek x).length:Int)≤l.limit by omega);have hxi:I64 x.base:=by obtain⟨_,_,_,_,h,-⟩:=hx0;exact h
 rw[hxe];clear hxe;intros;refine gN ?_;intros;refine gR 67 77 c69r16.eq_1 ?_;intro b9 hb9;refine sI ?_;refine qL F123.enters (ef [] _ (by decide) (Cells.one (E:=BE G2) (x:=x) (BE.le hg1 hx0) rfl)) ?_;rintro h' ⟨G3,rfl,hg3,hv3⟩;refine(H4 x.base l.limit [x] _ G3 (hv3.le (.refl _) fun _ _ h=>BE.le hg3 h) hxi hi _ _).mono ?_;rw[hof];rintro r h' ⟨G4,rfl,hg4,A5,c5,rfl,hs5⟩
 have hg14:=hg1.trans (hg3.trans hg4);have hse2:SE G4 ⟨x.base,ek x⟩ [.int .i64 x.base,.slice A5 (ek x).length c5]:=⟨A5,c5,rfl,hs5,hxi⟩;have hse2:SE G4 ⟨x.base,ek x⟩ [.int .i64 (⟨x.base,ek x⟩:Sg).base,.slice A5 (⟨x.base,ek x⟩:Sg).bytes.length c5]:=hse2;generalize (⟨x.base,ek x⟩:Sg)=s' at *;refine sI ?_;intros;refine gR 77 78 c69r17.eq_1 ?_;have hz0:decide ((0:Int)≠0)=false:=by decide
 refine sJ @hz0 ?_;intros;refine gC ?_;intros;refine gN ?_;have hsl1:SlV G4 (SE G4) 2 (.slice A l.segs.length c) l.segs:=SlSE.le hg14 ⟨A,c,rfl,hc,hmx,hA⟩;have hcl:=ni l.segs _ G4 hsl1 (by omega);have hs5:SB G4 (.slice A5 s'.bytes.length c5) s'.bytes:=hs5;intros;refine dT ?_;refine yY _ (.cons_cons _ (.cons _ J9)) (by decide) ?_;refine sJ c69r19.eq_1 ?_;refine⟨?_,?_⟩
 ·refine(jh hcl _ _).mono ?_;rintro r h' ⟨G8,L',rfl,hg3,A4,c4,ys,rfl,-,hys,rfl⟩;refine sI ?_;refine⟨ed hg3 (.cons _ (.cons_cons _ (.cons _ J9))),?_⟩;intro b9 hb9;refine⟨ed hg3 (.cons _ (.cons _ (.cons_cons _ (.cons _ J9)))),?_⟩;refine sI ?_;refine ts (L1:=[]) (L2:=[_,_,_,_]) (E:=SE G4) (x:=s') rfl hse2 rfl (by simp[Value.oneCell']) hys (by omega) (by omega) fun A' c' zc' hzc'=>?_
  dsimp only;generalize l.segs++[s']=ZS at *;refine sI ?_;refine⟨ed hg3 (.cons _ (.cons _ (.cons_cons _ (.cons _ J9)))),?_⟩;refine fK (mc _ _ _ _ _ _ _ _ _ _ _) ?_;refine⟨ed hg3 (.cons _ (.cons _ (.cons_cons _ (.cons _ J9)))),?_⟩;refine sI ?_;refine⟨ed hg3 (.cons _ (.cons _ (.cons_cons _ (.cons _ J9)))),?_⟩;refine sI ?_;intros;refine dT ?_;refine eI (ef [_] _ (by decide) hzc') ?_
  rintro h' ⟨G9,rfl,hg9,hv9⟩;intros;refine rW ?_;exact⟨_,rfl,A',c',rfl,hv9.le (.refl _) fun _ _ h=>SE.le (hg3.trans hg9) h,hi,hj⟩
 ·intro b9 hb9;refine⟨ed Kd (.cons _ (.cons_cons _ (.cons _ J9))),?_⟩;refine(jh hcl _ _).mono ?_;rintro r h' ⟨G8,L',rfl,hg3,A4,c4,ys,rfl,-,hys,rfl⟩;refine sI ?_;refine⟨ed hg3 (.cons _ (.cons _ (.cons_cons _ (.cons _ J9)))),?_⟩;refine sI ?_;refine I8 (L2:=[_,_,_,_]) (E:=SE G4) (x:=s') rfl hse2 rfl (by simp[Value.oneCell']) hys (by omega) (by omega) fun A' c' zc' hzc'=>?_
  dsimp only;generalize l.segs++[s']=ZS at *;refine sI ?_;refine⟨ed hg3 (.cons _ (.cons _ (.cons_cons _ (.cons _ J9)))),?_⟩;refine fK (mc _ _ _ _ _ _ _ _ _ _ _) ?_;refine⟨ed hg3 (.cons _ (.cons _ (.cons_cons _ (.cons _ J9)))),?_⟩;refine sI ?_;refine⟨ed hg3 (.cons _ (.cons _ (.cons_cons _ (.cons _ J9)))),?_⟩;refine sI ?_;intros;refine dT ?_;refine eI (ef [] _ (by decide) hzc') ?_
  rintro h' ⟨G9,rfl,hg9,hv9⟩;intros;refine rW ?_;exact⟨_,rfl,A',c',rfl,hv9.le (.refl _) fun _ _ h=>SE.le (hg3.trans hg9) h,hi,hj⟩
end Go.Proofs.YtpmofpekcbghnaaGreat

/- Parts of a proof, 31 texts in one file. No condition. -/
import Derived.Test.YtpmofpekcbghnaaGreatRows
import Derived.WalkKit
import Derived.ProofKit
import Derived.OpenShut
import Derived.ShutString
import Derived.ChangeOld
import Derived.ChangeSame
import Derived.Below
import Derived.Test.YtpmofpekcbghnaaGreatM1
import Derived.Test.YtpmofpekcbghnaaGreatM2
import Derived.Test.YtpmofpekcbghnaaGreatM3
import Derived.Test.YtpmofpekcbghnaaGreatM4
import Derived.Test.YtpmofpekcbghnaaGreatM5
set_option linter.unusedSimpArgs false
set_option linter.unusedVariables false
namespace Go.Proofs.YtpmofpekcbghnaaGreat
open Go Go.Kx Go.ChangeShapes Go.WideShapes Go.ChangeAt Go.RowKit
open List (getElem?_eq_getElem mem_of_getElem? length_append append_nil take_length)
theorem own:ownKnob Tryz.prog.godebug=none:=by kernel_rfl
theorem xq:laidOutB Tryz.prog=true:=by kernel_rfl
theorem uq(W:World):ip Tryz.prog W 5 UE:=(f0 Tryz.underlying5).mono fun n cs ⟨h1,h2⟩=>⟨UInt8.ofNat n.toNat,by rw[UE,← IX h2];exact h1⟩
theorem rP(W:World):ip Tryz.prog W 118 (fun(l:KD) cs=>∃ A c,cs=[.slice A l.length c]∧l.length≤c∧c≤maxLen∧SlA (pF W) UE 1 A l) :=
 iW Tryz.underlying118 (by kernel_rfl) (uq W)
end Go.Proofs.YtpmofpekcbghnaaGreat
namespace Go.Proofs.YtpmofpekcbghnaaGreat
open Go Go.Kx
open List (getElem?_eq_getElem mem_of_getElem? length_append append_nil take_length)
theorem F210:Fun Tryz.prog 210 11 v210 c210 o210:=Fun.mkA Tryz.func210 Tryz.ntmps210
theorem F196:Fun Tryz.prog 196 44 v196 c196 o196:=Fun.mkA Tryz.func196 Tryz.ntmps196
theorem F207:Fun Tryz.prog 207 48 v207 c207 o207:=Fun.mkA Tryz.func207 Tryz.ntmps207
theorem F226:Fun Tryz.prog 226 25 v226 c226 o226:=Fun.mkA Tryz.func226 Tryz.ntmps226
theorem mu{a:Nat}(ha:a < 18446744073709551616):(BitVec.ofInt 64 (a:Int)).toNat=a:=by
 rw[BitVec.ofInt_natCast,BitVec.toNat_ofNat];exact Nat.mod_eq_of_lt ha
theorem lE{a:Nat}(ha:a < 18446744073709551616):IntKind.u64.wrap (a:Int)=(a:Int):=by
 rw[IntKind.wrap_u64];omega
theorem wO{a b:Nat}(ha:a < 18446744073709551616)(hb:b < 18446744073709551616):fq .and (.int .u64 (a:Int)) (.int .u64 (b:Int))=some (.int .u64 ((a &&& b:Nat):Int)):=by
 simp only[fq];rw[if_pos trivial];have:(BitVec.ofInt IntKind.u64.bits (a:Int) &&& BitVec.ofInt IntKind.u64.bits (b:Int)).toNat=a &&& b:=by
  show(BitVec.ofInt 64 (a:Int) &&& BitVec.ofInt 64 (b:Int)).toNat=_;rw[BitVec.toNat_and,mu ha,mu hb]
 rw[this,lE (Nat.lt_of_le_of_lt Nat.and_le_left ha)]
theorem uc{a b:Nat}(ha:a < 18446744073709551616)(hb:b < 18446744073709551616):fq .or (.int .u64 (a:Int)) (.int .u64 (b:Int))=some (.int .u64 ((a ||| b:Nat):Int)):=by
 simp only[fq];rw[if_pos trivial];have:(BitVec.ofInt IntKind.u64.bits (a:Int) ||| BitVec.ofInt IntKind.u64.bits (b:Int)).toNat=a ||| b:=by
  show(BitVec.ofInt 64 (a:Int) ||| BitVec.ofInt 64 (b:Int)).toNat=_
  rw[BitVec.toNat_or,mu ha,mu hb]
 rw[this,lE];exact Nat.or_lt_two_pow (n:=64) ha hb
theorem qR{a s:Nat}(hs:s≤64)(h:a * 2 ^ s < 18446744073709551616)(k:IntKind):fq .shl (.int .u64 (a:Int)) (.int k (s:Int))=some (.int .u64 ((a * 2 ^ s:Nat):Int)):=by
 simp only[fq];rw[if_pos (by omega)];have h1:min ((s:Int)).toNat IntKind.u64.bits=s:=by simp[IntKind.bits];omega
 rw[h1];have h2:(a:Int) * 2 ^ s=((a * 2 ^ s:Nat):Int):=by push_cast;rfl
 rw[h2,lE h]
theorem tT{a b n:Nat}(hb:b < 2 ^ n):a * 2 ^ n ||| b=a * 2 ^ n+b:=by
 rw[Nat.mul_comm];exact(Nat.two_pow_add_eq_or_of_lt hb a).symm
theorem CJ(x:UInt8):fq .and (.int .u8 (x.toNat:Int)) (.int .u8 127)=some (.int .u8 ((x.toNat % 128:Nat):Int)):=by
 have key:∀ b:Fin 256,(BitVec.ofInt 8 ((b.val:Nat):Int) &&& BitVec.ofInt 8 127).toNat=b.val % 128:=by decide +kernel
 have h2:=key ⟨x.toNat,x.toNat_lt⟩;simp only[fq];rw[if_pos trivial];have h3:(BitVec.ofInt IntKind.u8.bits (x.toNat:Int) &&& BitVec.ofInt IntKind.u8.bits 127).toNat=x.toNat % 128:=h2;rw[h3,IntKind.wrap_u8];congr 2;omega
theorem Fc(x:Nat)(hx:x < 256):IntKind.u64.wrap (x:Int)=(x:Int):=lE (by omega)
theorem uE{α:Type}{E:α→Kt→Prop}{G:Ks}{sz:Nat}{P:Program}{d:Nat}{l:Ku}{e:Env}{h:H}{K:KH}{A:Ky}{n c:Nat}{xs:List α}{lw u m:Int}(lo hi mx:Nat)(hl:SlV G E sz (.slice A n c) xs)(h1:lw=lo)(h2:u=hi)(h3:m=mx)
  (h4:lo≤hi∧hi≤xs.length∧hi≤mx∧mx≤c) (hk:∀ B,SlV G E sz (.slice B ((xs.take hi).drop lo).length (mx - lo)) ((xs.take hi).drop lo)→kR P l d e K (.slice B ((xs.take hi).drop lo).length (mx - lo)) h):slY P A c (some lw) (some u) (some m) sz d l e h K:=by
 subst h1 h2 h3;obtain⟨A',c',he,hc,hm,hA⟩:=hl;cases he;have hlen:((xs.take hi).drop lo).length=hi - lo:=by simp;omega
 refine⟨by omega,?_⟩;have:=hk (if ((mx:Nat):Int).toNat=((lo:Nat):Int).toNat then A else A.map (·.add (((lo:Nat):Int).toNat * sz))) ⟨_,_,rfl,by omega,by omega,?_⟩
 ·rw[hlen]at this;simpa using this
 ·refine hA.cut (by omega) fun hlt=>?_
  rw[if_neg (by simp;omega)];simp
theorem SlV.pre{α:Type}{E:α→Kt→Prop}{G:Ks}{sz:Nat}{A:Ky}{n c:Nat}{xs:List α}(hi:Nat)(hl:SlV G E sz (.slice A n c) xs)(h:hi≤xs.length):SlV G E sz (.slice A hi c) (xs.take hi):=by
 obtain⟨A',c',he,hc,hm,hA⟩:=hl;cases he;have hlen:(xs.take hi).length=hi:=by simp;omega
 refine⟨A,c,by rw[hlen],by omega,hm,?_⟩;have:=hA.cut (l:=0) (n:=hi) (B:=A) h fun _=>by cases A <;> simp[Addr.add]
 simpa using this
def la(l:KD):Nat:=l.foldl (fun n x=>n * 256+x.toNat) 0
theorem xg:∀ (l:KD) (n k:Nat),n < 256 ^ k→l.foldl (fun n x=>n * 256+x.toNat) n < 256 ^ (k+l.length)
 | [],n,k,h=>by simpa using h
 | x :: l,n,k,h=>by
  have hx:=x.toNat_lt;have:=xg l (n * 256+x.toNat) (k+1) (by rw[Nat.pow_succ];omega);rw[List.foldl_cons,List.length_cons,show k+(l.length+1)=k+1+l.length by omega];exact this
theorem vz(l:KD):la l < 256 ^ l.length:=by
 have:=xg l 0 0 (by simp);simpa [la]using this
theorem rg{l:KD}{k:Nat}{x:UInt8}(hx:l[k]?=some x):la (l.take (k+1))=la (l.take k) * 256+x.toNat:=by
 have h:=List.getElem?_eq_some_iff.1 hx;rw[List.take_succ_eq_append_getElem h.1,h.2];simp[la]
theorem BO{l:KD}(h:l.length≤7):la l < 72057594037927936:=by
 have:=vz l;have h2:256 ^ l.length≤256 ^ 7:=Nat.pow_le_pow_right (by decide) h;omega
def ix(l:KD)(a:Int)(k:Nat):Nat × Int:=if a < 0 then(0,1)else if (l.drop a.toNat).length < k then(0,10)else(la ((l.drop a.toNat).take k),0)
theorem xt(l:KD)(a:Nat)(v:Value)(G:Ks)(hl:SB G v l):FnE Tryz.prog 210 #[v,.int .i64 (a:Int)] G (fun r=>SB G r (l.drop a)):=by
 obtain⟨A,c,rfl,hA⟩:=id hl;refine F210.fnE (by simp) (dY ?_);unfold c210;intros;refine gR 0 0 c210r0.eq_1 ?_;have hmin:min (a:Int) l.length=((min a l.length:Nat):Int):=by omega
 intros;refine gR2 5 11 c210r1.eq_1 @hmin ?_;refine uE (min a l.length) l.length c hl rfl rfl rfl (by have:=hA.1;omega) fun B hB=>?_
 have he:(l.take l.length).drop (min a l.length)=l.drop a:=by
  rw[take_length];by_cases h:a≤l.length
  ·rw[Nat.min_eq_left h]
  ·rw[Nat.min_eq_right (by omega),List.drop_length,List.drop_of_length_le (by omega)]
 rw[he]at hB ⊢;refine sI ?_;intros;refine rW ?_;exact hB
theorem ud{l:KD}{a:Int}{k:Nat}(h:a < 0):ix l a k=(0,1):=if_pos h
theorem jO(l:KD)(a k:Nat):ix l (a:Int) k=if (l.drop a).length < k then(0,10)else(la ((l.drop a).take k),0):=by
 rw[ix,if_neg (by omega)];rfl
theorem xQ(l:KD)(a:Int)(k:Nat)(hk:1≤k∧k≤8)(v:Value)(G:Ks)(hl:SB G v l):
  FnS Tryz.prog 196 #[v,.int .i64 a,.int .i64 (k:Int)] G (.tuple #[.int .u64 ((ix l a k).1:Int),.int .i64 (ix l a k).2]):=by
 obtain⟨A,c,rfl,hA⟩:=id hl;refine F196.fnS (by simp) (dY ?_);unfold c196;intros;refine gR 0 0 c196r0.eq_1 ?_;intros;refine gR 12 21 c196r1.eq_1 ?_;refine gd (fun h1=>absurd (KM h1) (by omega)) (fun h1=>?_);refine sI ?_;have h2:decide ((8:Int) < (k:Int))=false:=decide_eq_false (by omega);refine sJ @h2 ?_;intros;refine gC ?_;refine gbD (fun h3=>?_) (fun h3=>?_)
 ·intros;refine gR 0 0 c196r2.eq_1 ?_;intros;refine rW ?_;rw[ud h3];rfl
 obtain⟨a,rfl⟩:∃ n:Nat,a=n:=⟨a.toNat,by omega⟩;rw[jO];intros;refine gN ?_;intros;refine gR 22 25 c196r3.eq_1 ?_;refine(xt l a _ G hl _ _).mono ?_;rintro r h' ⟨hr,rfl⟩;generalize l.drop a=m at hr ⊢;obtain⟨B,d,rfl,hB⟩:=id hr;refine sI ?_;intros;refine gR 25 28 c196r4.eq_1 ?_;intros;refine gC ?_;refine gbD (fun h4=>?_) (fun h4=>?_)
 ·intros;refine gR 0 0 c196r5.eq_1 ?_;intros;refine rW ?_;rw[if_pos (by omega)];rfl
 rw[if_neg (by omega)];intros;refine gN ?_;intros;refine gR 0 0 c196r6.eq_1 ?_;intros;refine gR 29 31 c196r7.eq_1 ?_;refine⟨by have:=hB.1;omega,?_⟩;intros;refine dT ?_;have hC:=SlV.pre k hr (by omega);generalize hm:m.take k=x at hC ⊢;have hxl:x.length=k:=by rw[← hm];simp;omega
 obtain⟨B',d',he,hd',hm',hC⟩:=hC;cases he;refine ej (fun e h=>∃ (i:Nat),i≤x.length∧e 33=.int .i64 i∧e 32=.int .i64 x.length∧e 31=.slice B x.length d∧e 9=.int .u64 (la (x.take i):Int)∧h=⟨G,[],[]⟩) (fun e h=>x.length - iv (e 33)) ?_ ?_
 ·exact⟨0,Nat.zero_le _,eE,eE,eE,by refine sI ?_;rfl,rfl⟩
 ·rintro e h ⟨i,hi,e33,e32,e31,e9,rfl⟩;refine dV [9,31,32,33] ?_;refine sJ4 @e9 @e31 @e32 @e33 ?_;intros;refine gR 0 0 c196r8.eq_1 ?_;intros;refine gC ?_;refine gb (fun ht=>?_) (fun ht=>?_)
  ·have ht:i < x.length:=by simpa using ht
   obtain⟨y,hy⟩:∃ y,x[i]?=some y:=⟨x[i],getElem?_eq_getElem (by omega)⟩;have hw:=eW i x.length ht (by unfold maxLen;omega);have h7:la (x.take i) < 72057594037927936:=BO (by simp;omega);have hyl:=y.toNat_lt;have hs:fq .shl (.int .u64 (la (x.take i):Int)) (.int .u64 8)=some (.int .u64 ((la (x.take i) * 2 ^ 8:Nat):Int)):=qR (s:=8) (by omega) (by omega) .u64
   have ho:fq .or (.int .u64 ((la (x.take i) * 2 ^ 8:Nat):Int)) (.int .u64 (y.toNat:Int))=some (.int .u64 (la (x.take (i+1)):Int)):=by
    rw[uc (by omega) (by omega),tT (n:=8) (by omega),rg hy]
   generalize hq:la (x.take i) * 2 ^ 8=q at hs ho;intros;refine gN ?_;intros;refine gR 35 37 c196r9.eq_1 ?_;refine hC.x_l1 hy rfl rfl ?_;rintro a1 ha1 u hu;cases hu;refine sI ?_;intros;refine gr 37 42 ?_;(refine sJ4 c196r10.eq_1 @hs (Fc y.toNat hyl) @ho ?_);intros;refine gR2 42 43 c196r11.eq_1 @hw ?_;intros;refine dT ?_;refine eF ⟨⟨i+1,by omega,eE,eE,eE,eE,rfl⟩,?_⟩;refine sI ?_;omega
  ·have ht:i=x.length:=by simp at ht;omega
   subst ht;refine eg ?_;refine sI ?_;intros;refine gR 43 44 c196r12.eq_1 ?_;intros;refine rW ?_;rw[List.take_of_length_le (by omega)]
theorem tG(l:KD)(a:Int)(k:Nat)(hk:1≤k∧k≤8)(v:Value)(G:Ks)(hl:SB G v l):
  FnS Tryz.prog 207 #[v,.int .i64 a,.int .i64 (k:Int)] G (.tuple #[.int .u64 ((ix l a k).1:Int),.int .i64 (ix l a k).2]):=by
 obtain⟨A,c,rfl,hc,hm,hA⟩:=id hl;refine F207.fnS (by simp) (dY ?_);unfold c207;unfold maxLen at hm;intros;refine gR 0 0 c207r0.eq_1 ?_;intros;refine gR 10 19 c207r1.eq_1 ?_;refine gd (fun h1=>absurd (KM h1) (by omega)) (fun h1=>?_);refine sI ?_;have h2:decide ((8:Int) < (k:Int))=false:=decide_eq_false (by omega);refine sJ @h2 ?_;intros;refine gC ?_;refine gbD (fun h3=>?_) (fun h3=>?_)
 ·intros;refine gR 0 0 c207r2.eq_1 ?_;intros;refine rW ?_;rw[ud h3];rfl
 obtain⟨a,rfl⟩:∃ n:Nat,a=n:=⟨a.toNat,by omega⟩;rw[jO]
 have hbad:(l.drop a).length < k→∀ (fr:KA) (e:Env),go none Tryz.prog 48 v207.1 v207.2 (fI o207 fun v h=>v=.tuple #[.int .u64 ((if (l.drop a).length < k then((0:Nat),(10:Int))else(la ((l.drop a).take k),0)).1:Int),.int .i64 (if (l.drop a).length < k then((0:Nat),(10:Int))else(la ((l.drop a).take k),0)).2]) (Td.s ((SC.reg false c207r4).seq .ret) :: fr) e ⟨G,[],[]⟩:=fun hx fr e=>by
  intros;refine gR 0 0 c207r4.eq_1 ?_;intros;refine rW ?_;rw[if_pos hx];rfl
 intros;refine gN ?_;intros;refine gR 20 31 c207r3.eq_1 ?_;refine gdD (fun h4=>?_) (fun h4=>?_)
 ·refine sI ?_;intros;refine gC ?_;exact hbad (by simp;omega) _ _
 have w1:IntKind.i64.wrap ((l.length:Int) - a)=(l.length:Int) - a:=by rw[ei] <;> omega
 refine sJ @w1 ?_;intros;refine gC ?_;refine gbD (fun h5=>?_) (fun h5=>?_)
 ·exact hbad (by simp;omega) _ _
 clear hbad;rw[if_neg (by simp;omega)];generalize hm:l.drop a=m;have hml:k≤m.length:=by rw[← hm];simp;omega
 intros;refine gN ?_;intros;refine gR 0 0 c207r5.eq_1 ?_;intros;refine gR 0 0 c207r6.eq_1 ?_;intros;refine dT ?_;refine ej (fun e h=>∃ (i:Nat),i≤k∧e 33=.int .i64 i∧e 32=.int .i64 k∧e 0=.slice A l.length c∧e 1=.int .i64 (a:Int)∧e 8=.int .u64 (la (m.take i):Int)∧h=⟨G,[],[]⟩) (fun e h=>k - iv (e 33)) ?_ ?_
 ·exact⟨0,Nat.zero_le _,eE,eE,eE,eE,by refine sI ?_;rfl,rfl⟩
 ·rintro e h ⟨i,hi,e33,e32,e0,e1,e8,rfl⟩;refine dV [0,1,8,32,33] ?_;refine sJ5 @e0 @e1 @e8 @e32 @e33 ?_;intros;refine gR 0 0 c207r7.eq_1 ?_;intros;refine gC ?_;refine gb (fun ht=>?_) (fun ht=>?_)
  ·have ht:i < k:=by simpa using ht
   obtain⟨y,hy⟩:∃ y,m[i]?=some y:=⟨m[i],getElem?_eq_getElem (by omega)⟩;have hy':l[a+i]?=some y:=by rw[← hm,List.getElem?_drop]at hy;exact hy
   have hw:=eW i k ht (by unfold maxLen;omega);have h7:la (m.take i) < 72057594037927936:=BO (by simp;omega);have hyl:=y.toNat_lt;have w2:IntKind.i64.wrap ((a:Int)+i)=((a+i:Nat):Int):=by rw[ei] <;> omega
   have w3:IntKind.u64.wrap (IntKind.u64.wrap ((la (m.take i):Int) * 256)+(y.toNat:Int))=(la (m.take (i+1)):Int):=by
    rw[rg hy,IntKind.wrap_u64,IntKind.wrap_u64];omega
   intros;refine gN ?_;intros;refine gR 35 36 c207r8.eq_1 ?_;intros;refine gr 36 46 ?_;refine sJ3 c207r9.eq_1 @w2 @nU ?_;refine hA.x_l1 hy' (by omega) rfl ?_;rintro a1 ha1 u hu;cases hu
   (refine sJ3 (Fc y.toNat hyl) @p8 @w3 ?_)
   intros;refine gR2 46 47 c207r10.eq_1 @hw ?_;intros;refine dT ?_;refine eF ⟨⟨i+1,by omega,eE,eE,eE,eE,eE,rfl⟩,?_⟩;refine sI ?_;omega
  ·have ht:i=k:=by simp at ht;omega
   subst ht;refine eg ?_;refine sI ?_;intros;refine gR 47 48 c207r11.eq_1 ?_;intros;refine rV ?_;simp only[push_cast,Nat.reduceBEq]
def qE(l:KD)(a:Nat):Bool × Int × Int:=match l[a]? with
 | none=>(false,0,10)
 | some x=>if 1 < x.toNat then(false,0,11)else(decide (x.toNat=1),a+1,0)
theorem C7(l:KD)(a:Nat)(v:Value)(G:Ks)(hl:SB G v l):
  FnS Tryz.prog 226 #[v,.int .i64 (a:Int)] G (.tuple #[.bool (qE l a).1,.int .i64 (qE l a).2.1,.int .i64 (qE l a).2.2]):=by
 obtain⟨A,c,rfl,hc,hm,hA⟩:=id hl;refine F226.fnS (by simp) (dY ?_);unfold c226;intros;refine gR 0 0 c226r0.eq_1 ?_;intros;refine gR 8 12 c226r1.eq_1 ?_;intros;refine gC ?_;refine gbD (fun h1=>?_) (fun h1=>?_)
 ·intros;refine gR 0 0 c226r2.eq_1 ?_;intros;refine rW ?_;rw[qE,List.getElem?_eq_none (by omega)]
 obtain⟨y,hy⟩:∃ y,l[a]?=some y:=⟨l[a]'(by omega),getElem?_eq_getElem _⟩;rw[qE,hy];dsimp only;intros;refine gR 13 18 c226r3.eq_1 ?_;refine hA.x_l1 hy rfl rfl ?_;rintro a1 ha1 u hu;cases hu;refine sI ?_;intros;refine gC ?_;refine gbD (fun h2=>?_) (fun h2=>?_)
 ·intros;refine gR 0 0 c226r4.eq_1 ?_;intros;refine rW ?_;rw[if_pos (by omega)]
 rw[if_neg (by omega)];have hw:=eW a l.length (by omega) (by omega);intros;refine gN ?_;intros;refine gR2 18 25 c226r5.eq_1 @hw ?_;refine hA.x_l1 hy rfl rfl ?_;rintro a1 ha1 u hu;cases hu;refine sJ @hw ?_;intros;refine rW ?_;congr 3;simp;omega
theorem F213:Fun Tryz.prog 213 58 v213 c213 o213:=Fun.mkA Tryz.func213 Tryz.ntmps213
theorem F218:Fun Tryz.prog 218 73 v218 c218 o218:=Fun.mkA Tryz.func218 Tryz.ntmps218
theorem F222:Fun Tryz.prog 222 45 v222 c222 o222:=Fun.mkA Tryz.func222 Tryz.ntmps222
theorem F228:Fun Tryz.prog 228 43 v228 c228 o228:=Fun.mkA Tryz.func228 Tryz.ntmps228
def gvL:Nat→Nat→KD→Int × Nat × Nat
 | _,_,[]=>(10,0,0)
 | i,z,x :: xs=>if (i=9∧1 < x.toNat)∨(0 < i∧x.toNat=0)then(11,0,0)else if x.toNat < 128 then(0,z+128 ^ i * (x.toNat % 128),i+1)else gvL (i+1) (z+128 ^ i * (x.toNat % 128)) xs
def zag(z:Nat):Int:=if z % 2=0 then((z / 2:Nat):Int)else -((z / 2:Nat):Int) - 1
def fH(l:KD)(a:Int):Int × Int × Int:=if a < 0 then(0,0,1)else if (gvL 0 0 (l.drop a.toNat)).1=0 then(zag (gvL 0 0 (l.drop a.toNat)).2.1,a+(gvL 0 0 (l.drop a.toNat)).2.2,0)else(0,0,(gvL 0 0 (l.drop a.toNat)).1)
theorem xA(i z:Nat):gvL i z []=(10,0,0):=rfl
theorem pM{i z:Nat}{x:UInt8}{xs:KD}(h:(i=9∧1 < x.toNat)∨(0 < i∧x.toNat=0)):gvL i z (x :: xs)=(11,0,0):=by rw[gvL,if_pos h]
theorem mB{i z:Nat}{x:UInt8}{xs:KD}(h:¬ ((i=9∧1 < x.toNat)∨(0 < i∧x.toNat=0)))(h2:x.toNat < 128):gvL i z (x :: xs)=(0,z+128 ^ i * (x.toNat % 128),i+1):=by rw[gvL,if_neg h,if_pos h2]
theorem lU{i z:Nat}{x:UInt8}{xs:KD}(h:¬ ((i=9∧1 < x.toNat)∨(0 < i∧x.toNat=0)))(h2:¬ x.toNat < 128):gvL i z (x :: xs)=gvL (i+1) (z+128 ^ i * (x.toNat % 128)) xs:=by rw[gvL,if_neg h,if_neg h2]
theorem HO{i:Nat}(h:i≤9):128 ^ i≤9223372036854775808:=by
 have:128 ^ i≤128 ^ 9:=Nat.pow_le_pow_right (by decide) h;omega
theorem Gm{i:Nat}(h:i≤8):128 ^ i≤72057594037927936:=by
 have:128 ^ i≤128 ^ 8:=Nat.pow_le_pow_right (by decide) h;omega
theorem sv{i z x:Nat}(hi:i≤9)(hz:z < 128 ^ i)(hx:¬ (i=9∧1 < x))(hx2:x < 256):128 ^ i * (x % 128) < 18446744073709551616∧z+128 ^ i * (x % 128) < 18446744073709551616∧(i≤8→z+128 ^ i * (x % 128) < 128 ^ (i+1)):=by
 have h128:x % 128≤127:=by omega
 have h1:128 ^ i * (x % 128)≤128 ^ i * 127:=Nat.mul_le_mul_left _ h128;have h3:128 ^ (i+1)=128 ^ i * 128:=Nat.pow_succ ..;by_cases h9:i=9
 ·subst h9;have:x≤1:=by omega
  have h4:128 ^ 9 * (x % 128)≤128 ^ 9 * 1:=Nat.mul_le_mul_left _ (by omega);omega
 ·have:=Gm (show i≤8 by omega);omega
theorem Bh:∀ (m:KD) (i z:Nat),i≤9→z < 128 ^ i→(gvL i z m).1=0→(gvL i z m).2.1 < 18446744073709551616∧i < (gvL i z m).2.2∧(gvL i z m).2.2≤i+m.length
 | [],i,z,_,_,h=>by simp[gvL]at h
 | x :: xs,i,z,hi,hz,h=>by
  by_cases h1:(i=9∧1 < x.toNat)∨(0 < i∧x.toNat=0)
  ·rw[pM h1]at h;cases h
  ·obtain⟨s1,s2,s3⟩:=sv hi hz (fun h=>h1 (.inl h)) x.toNat_lt;by_cases h2:x.toNat < 128
   ·rw[mB h1 h2];exact⟨s2,by simp,by simp⟩
   ·have hi8:i≤8:=by omega
    rw[lU h1 h2]at h ⊢;obtain⟨a,b,c⟩:=Bh xs (i+1) _ (by omega) (s3 hi8) h;refine⟨a,by omega,by simp;omega⟩
theorem He{z:Nat}(h:z < 18446744073709551616):I64 (zag z):=by
 unfold zag I64;split <;> omega
theorem Ei{z:Nat}(hz:z < 18446744073709551616):fq .xor (.int .i64 ((z / 2:Nat):Int)) (.int .i64 (IntKind.i64.wrap (0 - ((z % 2:Nat):Int))))=some (.int .i64 (zag z)):=by
 have key:IntKind.i64.wrap (((BitVec.ofInt 64 ((z / 2:Nat):Int) ^^^ BitVec.ofInt 64 (IntKind.i64.wrap (0 - ((z % 2:Nat):Int)))).toNat:Nat):Int)=zag z:=by
  by_cases h0:z % 2=0
  ·have e2:IntKind.i64.wrap (0 - ((z % 2:Nat):Int))=0:=by rw[h0];rfl
   rw[e2];have:BitVec.ofInt 64 0=0#64:=rfl;rw[this,BitVec.xor_zero,mu (by omega),zag,if_pos h0,ei];omega
  ·have e2:IntKind.i64.wrap (0 - ((z % 2:Nat):Int))=-1:=by rw[show z % 2=1 by omega];rfl
   rw[e2];have:BitVec.ofInt 64 (-1)=BitVec.allOnes 64:=by decide
   rw[this,BitVec.xor_allOnes,BitVec.toNat_not,mu (by omega),zag,if_neg h0,IntKind.wrap_i64];omega
 simp only[fq];rw[if_pos trivial];exact congrArg (fun n=>some (Value.int .i64 n)) key
theorem sN(z:Nat):fq .shr (.int .u64 (z:Int)) (.int .u64 1)=some (.int .u64 ((z / 2:Nat):Int)):=by
 simp[fq,IntKind.bits];rw[Int.fdiv_eq_ediv_of_nonneg _ (by omega)]
theorem sx{z:Nat}(hz:z < 18446744073709551616):fq .and (.int .u64 (z:Int)) (.int .u64 1)=some (.int .u64 ((z % 2:Nat):Int)):=by
 have:=wO (b:=1) hz (by omega);rw[Nat.and_one_is_mod]at this;exact this
theorem l5(l:KD)(a:Int)(v:Value)(G:Ks)(hl:SB G v l):
  FnS Tryz.prog 213 #[v,.int .i64 a] G (.tuple #[.int .i64 (fH l a).1,.int .i64 (fH l a).2.1,.int .i64 (fH l a).2.2]):=by
 obtain⟨A,c,rfl,hc,hm,hA⟩:=id hl;unfold maxLen at hm;refine F213.fnS (by simp) (dY ?_);unfold c213;intros;refine gR 0 0 c213r0.eq_1 ?_;intros;refine gR 10 11 c213r1.eq_1 ?_;intros;refine gC ?_;refine gbD (fun h1=>?_) (fun h1=>?_)
 ·intros;refine gR 0 0 c213r2.eq_1 ?_;intros;refine rW ?_;rw[fH,if_pos h1]
 obtain⟨a,rfl⟩:∃ n:Nat,a=n:=⟨a.toNat,by omega⟩;have hgv:fH l (a:Int)=if (gvL 0 0 (l.drop a)).1=0 then(zag (gvL 0 0 (l.drop a)).2.1,(a:Int)+(gvL 0 0 (l.drop a)).2.2,0)else(0,0,(gvL 0 0 (l.drop a)).1):=by
  rw[fH,if_neg h1];rfl
 have hdl:a+(l.drop a).length≤l.length∨l.drop a=[]:=by
  by_cases h:a≤l.length
  ·left;simp;omega
  ·right;exact List.drop_of_length_le (by omega)
 rw[hgv];intros;refine gN ?_;intros;refine gR 0 0 c213r3.eq_1 ?_;intros;refine gR 12 14 c213r4.eq_1 ?_;refine(xt l a _ G hl _ _).mono ?_;rintro r h' ⟨hr,rfl⟩;generalize hm0:l.drop a=m at hr hdl ⊢;obtain⟨B,d,rfl,hd,hdm,hB⟩:=hr;refine sI ?_;intros;refine dT ?_
 refine ej (fun e h=>∃ (i z:Nat),(i≤m.length∧i≤9∧z < 128 ^ i∧gvL 0 0 m=gvL i z (m.drop i))∧e 16=.int .i64 i∧e 15=.int .i64 m.length∧e 14=.slice B m.length d∧e 7=.int .u64 (z:Int)∧e 1=.int .i64 (a:Int)∧h=⟨G,[],[]⟩) (fun e h=>m.length - iv (e 16)) ?_ ?_
 ·exact⟨0,0,⟨Nat.zero_le _,by omega,by simp,by simp⟩,eE,eE,eE,eE,eE,rfl⟩
 ·rintro e h ⟨i,z,⟨hi,hi9,hz,heq⟩,e16,e15,e14,e7,e1,rfl⟩;refine dV [1,7,14,15,16] ?_;refine sJ5 @e1 @e7 @e14 @e15 @e16 ?_;intros;refine gR 0 0 c213r5.eq_1 ?_;intros;refine gC ?_;refine gb (fun ht=>?_) (fun ht=>?_)
  ·have ht:i < m.length:=by simpa using ht
   have hal:a+m.length≤l.length:=by
    rcases hdl with h | h
    ·exact h
    ·rw[h]at ht;simp at ht
   obtain⟨y,hy⟩:∃ y,m[i]?=some y:=⟨m[i],getElem?_eq_getElem (by omega)⟩;have hy0:=List.getElem?_eq_some_iff.1 hy;rw[List.drop_eq_getElem_cons ht,hy0.2]at heq;have hw:=eW i m.length ht (by omega);have hyl:=y.toNat_lt;intros;refine gN ?_;intros;refine gR 18 21 c213r6.eq_1 ?_;refine hB.x_l1 hy rfl rfl ?_;rintro a1 ha1 u hu;cases hu;refine sI ?_;intros;try refine ed ?_
   refine eL (fun e h=>¬ ((i=9∧1 < y.toNat)∨(0 < i∧y.toNat=0))∧e 16=.int .i64 i∧e 15=.int .i64 m.length∧e 14=.slice B m.length d∧e 7=.int .u64 (z:Int)∧e 1=.int .i64 (a:Int)∧e 8=.int .i64 i∧e 9=.int .u8 (y.toNat:Int)∧h=⟨G,[],[]⟩) ?_ ?_
   ·have hbad:((i=9∧1 < y.toNat)∨(0 < i∧y.toNat=0))→∀ (fr:KA) (e:Env),go none Tryz.prog 58 v213.1 v213.2 (fI o213 fun v h=>v=.tuple #[.int .i64 (if (gvL 0 0 m).1=0 then(zag (gvL 0 0 m).2.1,(a:Int)+(gvL 0 0 m).2.2,0)else(0,0,(gvL 0 0 m).1)).1,.int .i64 (if (gvL 0 0 m).1=0 then(zag (gvL 0 0 m).2.1,(a:Int)+(gvL 0 0 m).2.2,0)else(0,0,(gvL 0 0 m).1)).2.1,.int .i64 (if (gvL 0 0 m).1=0 then(zag (gvL 0 0 m).2.1,(a:Int)+(gvL 0 0 m).2.2,0)else(0,0,(gvL 0 0 m).1)).2.2]) (Td.s ((SC.reg false c213r8).seq .ret) :: fr) e ⟨G,[],[]⟩:=fun hx fr e=>by
     intros;refine gR 0 0 c213r8.eq_1 ?_;intros;refine rW ?_;rw[heq,pM hx];rfl
    intros;refine gR 21 34 c213r7.eq_1 ?_;refine gd (fun k1=>?_) (fun k1=>?_)
    ·have k1:i=9:=by have:=KM k1;omega
     have hp:decide ((0:Int) < (i:Int))=true:=decide_eq_true (by omega);refine sI ?_;refine gdD (fun k2=>?_) (fun k2=>?_)
     ·refine sI ?_;intros;refine gC ?_;exact hbad (.inl ⟨k1,by omega⟩) _ _
     ·refine sJ @hp ?_;intros;refine gC ?_;refine gb (fun k3=>?_) (fun k3=>?_)
      ·exact hbad (.inr ⟨by omega,by have:=KM k3;omega⟩) _ _
      ·have k3:=KN k3;intros;refine dT ?_;exact eF ⟨by omega,eE,eE,eE,eE,eE,eE,eE,rfl⟩
    ·have k1:¬ i=9:=by have:=KN k1;omega
     refine sI ?_;refine gdD (fun k2=>?_) (fun k2=>?_)
     ·refine sI ?_;intros;refine gC ?_;refine gb (fun k3=>?_) (fun k3=>?_)
      ·exact hbad (.inr ⟨by omega,by have:=KM k3;omega⟩) _ _
      ·have k3:=KN k3;intros;refine dT ?_;exact eF ⟨by omega,eE,eE,eE,eE,eE,eE,eE,rfl⟩
     ·refine sI ?_;intros;refine gC ?_;intros;refine dT ?_;exact eF ⟨by omega,eE,eE,eE,eE,eE,eE,eE,rfl⟩
   rintro e h ⟨hgood,e16,e15,e14,e7,e1,e8,e9,rfl⟩;refine dV [1,7,8,9,14,15,16] ?_;refine sJ7 @e1 @e7 @e8 @e9 @e14 @e15 @e16 ?_;obtain⟨s1,s2,s3⟩:=sv hi9 hz (fun h=>hgood (.inl h)) hyl;have hp7:128 ^ i=2 ^ (7 * i):=by rw[Nat.pow_mul]
   have w7:IntKind.i64.wrap (7 * (i:Int))=((7 * i:Nat):Int):=by rw[ei] <;> omega
   have hs:fq .shl (.int .u64 ((y.toNat % 128:Nat):Int)) (.int .i64 ((7 * i:Nat):Int))=some (.int .u64 ((y.toNat % 128 * 2 ^ (7 * i):Nat):Int)):=qR (by omega) (by rw[← hp7,Nat.mul_comm];exact s1) .i64;have ho:fq .or (.int .u64 (z:Int)) (.int .u64 ((y.toNat % 128 * 2 ^ (7 * i):Nat):Int))=some (.int .u64 ((z+128 ^ i * (y.toNat % 128):Nat):Int)):=by
    rw[uc (by omega) (by rw[← hp7,Nat.mul_comm];exact s1),Nat.or_comm,tT (by rw[← hp7];exact hz),← hp7,Nat.mul_comm,Nat.add_comm]
   have hcu:IntKind.u64.wrap ((y.toNat % 128:Nat):Int)=((y.toNat % 128:Nat):Int):=lE (by omega);have hx127:=CJ y;generalize hq:y.toNat % 128=q at hs ho hcu hx127;generalize hz':z+128 ^ i * q=z' at ho;generalize hqq:q * 2 ^ (7 * i)=qq at hs ho;generalize h7i:7 * i=j7 at hs w7;have hz2:z' < 18446744073709551616:=by rw[← hz',← hq];exact s2
   intros;refine gr 35 43 ?_;refine sJ6 c213r9.eq_1 @hx127 @hcu @w7 @hs @ho ?_;intros;refine gR 43 44 c213r10.eq_1 ?_;intros;refine gC ?_;refine gbD (fun k3=>?_) (fun k3=>?_)
   ·have w8:IntKind.i64.wrap ((a:Int)+i)=((a+i:Nat):Int):=by rw[ei] <;> omega
    have w9:IntKind.i64.wrap (((a+i:Nat):Int)+1)=((a+i+1:Nat):Int):=by rw[ei] <;> omega
    have hx:=Ei hz2;have hcz:IntKind.i64.wrap ((z' / 2:Nat):Int)=((z' / 2:Nat):Int):=by rw[ei] <;> omega
    have hcm:IntKind.i64.wrap ((z' % 2:Nat):Int)=((z' % 2:Nat):Int):=by rw[ei] <;> omega
    have ha1:=sx hz2;have hs1:=sN z';generalize hv1:z' / 2=v1 at hx hcz hs1;generalize hv2:z' % 2=v2 at hx hcm ha1;generalize hv3:a+i=v3 at w8 w9;generalize hv4:v3+1=v4 at w9
    intros;refine gr 45 57 ?_;(try simp -implicitDefEqProofs only[mg,mf,push_cast,Nat.reduceBEq,Nat.reduceAdd,Nat.reduceSub,Nat.reduceMul,Nat.reduceLT,Nat.reduceLeDiff,Nat.reduceEqDiff,reduceIte,Bool.not_true,Bool.not_false,true_and,and_true,Option.map_some,Option.bind_some,Int.toNat_natCast,c213r11,hs1,ha1,hcz,hcm,hx,w8,w9]);intros;refine rW ?_
    have hend:=mB (z:=z) (xs:=m.drop (i+1)) hgood (by omega);rw[heq,hend];simp only[if_true];rw[hq,hz',← hv4,← hv3];simp[Int.add_assoc]
   ·have hi8:i≤8:=by omega
    rw[lU hgood (by omega),hq,hz']at heq;intros;refine gN ?_;intros;refine gR2 57 58 c213r12.eq_1 @hw ?_;intros;refine dT ?_;refine eF ⟨⟨i+1,z',⟨by omega,by omega,by rw[← hz',← hq];exact s3 hi8,heq⟩,eE,eE,eE,eE,eE,rfl⟩,?_⟩;refine sI ?_;omega
  ·have ht:i=m.length:=by simp at ht;omega
   rw[ht,List.drop_length,xA]at heq;refine eg ?_;refine sI ?_;intros;refine gR 0 0 c213r13.eq_1 ?_;intros;refine rW ?_;rw[heq];rfl
theorem iL(l:KD)(a:Int)(v:Value)(G:Ks)(hl:SB G v l):
  FnS Tryz.prog 218 #[v,.int .i64 a] G (.tuple #[.int .i64 (fH l a).1,.int .i64 (fH l a).2.1,.int .i64 (fH l a).2.2]):=by
 obtain⟨A,c,rfl,hc,hm,hA⟩:=id hl;unfold maxLen at hm;refine F218.fnS (by simp) (dY ?_);unfold c218;intros;refine gR 0 0 c218r0.eq_1 ?_;intros;refine gR 12 13 c218r1.eq_1 ?_;intros;refine gC ?_;refine gbD (fun h1=>?_) (fun h1=>?_)
 ·intros;refine gR 0 0 c218r2.eq_1 ?_;intros;refine rW ?_;rw[fH,if_pos h1]
 obtain⟨a,rfl⟩:∃ n:Nat,a=n:=⟨a.toNat,by omega⟩;have hgv:fH l (a:Int)=if (gvL 0 0 (l.drop a)).1=0 then(zag (gvL 0 0 (l.drop a)).2.1,(a:Int)+(gvL 0 0 (l.drop a)).2.2,0)else(0,0,(gvL 0 0 (l.drop a)).1):=by
  rw[fH,if_neg h1];rfl
 rw[hgv];have hml:(l.drop a).length=l.length - a:=by simp
 have hmg:∀ i:Nat,(l.drop a)[i]?=l[a+i]?:=fun i=>by rw[List.getElem?_drop]
 generalize hm0:l.drop a=m at hml hmg ⊢;intros;refine gN ?_;intros;refine gR 0 0 c218r3.eq_1 ?_;intros;refine gR 0 0 c218r4.eq_1 ?_;intros;refine gR 0 0 c218r5.eq_1 ?_;intros;refine dT ?_
 refine ej (fun e h=>∃ (i z:Nat),(i≤m.length∧i≤9∧z < 128 ^ i∧gvL 0 0 m=gvL i z (m.drop i))∧e 9=.int .i64 i∧e 0=.slice A l.length c∧e 7=.int .u64 (z:Int)∧e 8=.int .u64 ((128 ^ i:Nat):Int)∧e 1=.int .i64 (a:Int)∧h=⟨G,[],[]⟩) (fun e h=>m.length - iv (e 9)) ?_ ?_
 ·exact⟨0,0,⟨Nat.zero_le _,by omega,by simp,by simp⟩,eE,eE,eE,by refine sI ?_;rfl,eE,rfl⟩
 ·rintro e h ⟨i,z,⟨hi,hi9,hz,heq⟩,e9,e0,e7,e8,e1,rfl⟩;refine dV [0,1,7,8,9] ?_;have hpu:128 ^ i≤9223372036854775808:=HO hi9;generalize hu:128 ^ i=un at e8 hpu;refine sJ5 @e0 @e1 @e7 @e8 @e9 ?_
  have hbad:m.length≤i→∀ (fr:KA) (e:Env),go none Tryz.prog 73 v218.1 v218.2 (fI o218 fun v h=>v=.tuple #[.int .i64 (if (gvL 0 0 m).1=0 then(zag (gvL 0 0 m).2.1,(a:Int)+(gvL 0 0 m).2.2,0)else(0,0,(gvL 0 0 m).1)).1,.int .i64 (if (gvL 0 0 m).1=0 then(zag (gvL 0 0 m).2.1,(a:Int)+(gvL 0 0 m).2.2,0)else(0,0,(gvL 0 0 m).1)).2.1,.int .i64 (if (gvL 0 0 m).1=0 then(zag (gvL 0 0 m).2.1,(a:Int)+(gvL 0 0 m).2.2,0)else(0,0,(gvL 0 0 m).1)).2.2]) (Td.s ((SC.reg false c218r7).seq .ret) :: fr) e ⟨G,[],[]⟩:=fun hx fr e=>by
   rw[List.drop_of_length_le hx,xA]at heq;intros;refine gR 0 0 c218r7.eq_1 ?_;intros;refine rW ?_;rw[heq];rfl
  intros;try refine ed ?_
  refine tq ?_;intros;try refine ed ?_
  refine eL (fun e h=>i < m.length∧e 9=.int .i64 i∧e 0=.slice A l.length c∧e 7=.int .u64 (z:Int)∧e 8=.int .u64 (un:Int)∧e 1=.int .i64 (a:Int)∧h=⟨G,[],[]⟩) ?_ ?_
  ·intros;refine gR 16 27 c218r6.eq_1 ?_;refine gdD (fun k1=>?_) (fun k1=>?_)
   ·refine sI ?_;intros;refine gC ?_;exact hbad (by omega) _ _
   ·have w1:IntKind.i64.wrap ((l.length:Int) - a)=(l.length:Int) - a:=by rw[ei] <;> omega
    refine sJ @w1 ?_;intros;refine gC ?_;refine gbD (fun k2=>?_) (fun k2=>?_)
    ·exact hbad (by omega) _ _
    ·intros;refine dT ?_;exact eF ⟨by omega,eE,eE,eE,eE,eE,rfl⟩
  rintro e h ⟨ht,e9,e0,e7,e8,e1,rfl⟩;refine dV [0,1,7,8,9] ?_;refine sJ5 @e0 @e1 @e7 @e8 @e9 ?_;clear hbad;obtain⟨y,hy⟩:∃ y,m[i]?=some y:=⟨m[i],getElem?_eq_getElem (by omega)⟩;have hy0:=List.getElem?_eq_some_iff.1 hy;rw[List.drop_eq_getElem_cons ht,hy0.2]at heq;have hw:=eW i m.length ht (by unfold maxLen;omega);have hyl:=y.toNat_lt;have hy':l[a+i]?=some y:=by rw[← hmg];exact hy
  have w2:IntKind.i64.wrap ((a:Int)+i)=((a+i:Nat):Int):=by rw[ei] <;> omega
  have w3:IntKind.i64.wrap (((a+i:Nat):Int)+1)=((a+i+1:Nat):Int):=by rw[ei] <;> omega
  generalize hv3:a+i=v3 at w2 w3 hy';generalize hv4:v3+1=v4 at w3;intros;refine gR2 28 34 c218r8.eq_1 @w2 ?_;refine hA.x_l1 hy' rfl rfl ?_;rintro a1 ha1 u hu';cases hu';refine sI ?_;intros;try refine ed ?_
  refine eL (fun e h=>¬ ((i=9∧1 < y.toNat)∨(0 < i∧y.toNat=0))∧e 9=.int .i64 i∧e 0=.slice A l.length c∧e 7=.int .u64 (z:Int)∧e 8=.int .u64 (un:Int)∧e 1=.int .i64 (a:Int)∧e 10=.int .u8 (y.toNat:Int)∧h=⟨G,[],[]⟩) ?_ ?_
  ·have hbad:((i=9∧1 < y.toNat)∨(0 < i∧y.toNat=0))→∀ (fr:KA) (e:Env),go none Tryz.prog 73 v218.1 v218.2 (fI o218 fun v h=>v=.tuple #[.int .i64 (if (gvL 0 0 m).1=0 then(zag (gvL 0 0 m).2.1,(a:Int)+(gvL 0 0 m).2.2,0)else(0,0,(gvL 0 0 m).1)).1,.int .i64 (if (gvL 0 0 m).1=0 then(zag (gvL 0 0 m).2.1,(a:Int)+(gvL 0 0 m).2.2,0)else(0,0,(gvL 0 0 m).1)).2.1,.int .i64 (if (gvL 0 0 m).1=0 then(zag (gvL 0 0 m).2.1,(a:Int)+(gvL 0 0 m).2.2,0)else(0,0,(gvL 0 0 m).1)).2.2]) (Td.s ((SC.reg false c218r10).seq .ret) :: fr) e ⟨G,[],[]⟩:=fun hx fr e=>by
    intros;refine gR 0 0 c218r10.eq_1 ?_;intros;refine rW ?_;rw[heq,pM hx];rfl
   intros;refine gR 34 47 c218r9.eq_1 ?_;refine gd (fun k1=>?_) (fun k1=>?_)
   ·have k1:i=9:=by have:=KM k1;omega
    have hp:decide ((0:Int) < (i:Int))=true:=decide_eq_true (by omega);refine sI ?_;refine gdD (fun k2=>?_) (fun k2=>?_)
    ·refine sI ?_;intros;refine gC ?_;exact hbad (.inl ⟨k1,by omega⟩) _ _
    ·refine sJ @hp ?_;intros;refine gC ?_;refine gb (fun k3=>?_) (fun k3=>?_)
     ·exact hbad (.inr ⟨by omega,by have:=KM k3;omega⟩) _ _
     ·have k3:=KN k3;intros;refine dT ?_;exact eF ⟨by omega,eE,eE,eE,eE,eE,eE,rfl⟩
   ·have k1:¬ i=9:=by have:=KN k1;omega
    refine sI ?_;refine gdD (fun k2=>?_) (fun k2=>?_)
    ·refine sI ?_;intros;refine gC ?_;refine gb (fun k3=>?_) (fun k3=>?_)
     ·exact hbad (.inr ⟨by omega,by have:=KM k3;omega⟩) _ _
     ·have k3:=KN k3;intros;refine dT ?_;exact eF ⟨by omega,eE,eE,eE,eE,eE,eE,rfl⟩
    ·refine sI ?_;intros;refine gC ?_;intros;refine dT ?_;exact eF ⟨by omega,eE,eE,eE,eE,eE,eE,rfl⟩
  rintro e h ⟨hgood,e9,e0,e7,e8,e1,e10,rfl⟩;refine dV [0,1,7,8,9,10] ?_;refine sJ6 @e0 @e1 @e7 @e8 @e9 @e10 ?_;obtain⟨s1,s2,s3⟩:=sv hi9 hz (fun h=>hgood (.inl h)) hyl;have hr128:fq .rem (.int .u8 (y.toNat:Int)) (.int .u8 128)=some (.int .u8 ((y.toNat % 128:Nat):Int)):=mL .u8 y.toNat 128 (by decide);have hcu:IntKind.u64.wrap ((y.toNat % 128:Nat):Int)=((y.toNat % 128:Nat):Int):=lE (by omega)
  have hz128:z < un:=by rw[← hu];exact hz
  rw[hu]at s1 s2 s3;generalize hq:y.toNat % 128=q at hr128 hcu s1 s2 s3;have wm:IntKind.u64.wrap ((un:Int) * q)=((un * q:Nat):Int):=by
   have:(un:Int) * q=((un * q:Nat):Int):=by push_cast;rfl
   rw[this,lE s1]
  have wa:IntKind.u64.wrap ((z:Int)+((un * q:Nat):Int))=((z+un * q:Nat):Int):=by
   have:(z:Int)+((un * q:Nat):Int)=((z+un * q:Nat):Int):=by push_cast;rfl
   rw[this,lE s2]
  generalize hz':z+un * q=z' at wa s2 s3;generalize hqq:un * q=qq at wm wa;intros;refine gr 48 55 ?_;refine sJ7 c218r11.eq_1 @hr128 @hcu @nU @p8 @wm @wa ?_;intros;refine gR2 55 57 c218r12.eq_1 @nU ?_;generalize hun':IntKind.u64.wrap ((un:Int) * 128)=un';intros;refine gR 57 58 c218r13.eq_1 ?_;intros;refine gC ?_;refine gbD (fun k3=>?_) (fun k3=>?_)
  ·have hend:=mB (z:=z) (xs:=m.drop (i+1)) hgood (by omega);rw[hu,hq,hqq,← hqq,hz']at hend;have hdv:fq .quo (.int .u64 (z':Int)) (.int .u64 2)=some (.int .u64 ((z' / 2:Nat):Int)):=n8 .u64 z' 2 (by decide) (by simp[IntKind.max,IntKind.signed,IntKind.bits];omega) rfl;have hrm:fq .rem (.int .u64 (z':Int)) (.int .u64 2)=some (.int .u64 ((z' % 2:Nat):Int)):=mL .u64 z' 2 (by decide)
   have hcz:IntKind.i64.wrap ((z' / 2:Nat):Int)=((z' / 2:Nat):Int):=by rw[ei] <;> omega
   have hv1:z' / 2 < 9223372036854775808:=by omega
   have hzag:zag z'=if z' % 2=0 then((z' / 2:Nat):Int)else -((z' / 2:Nat):Int) - 1:=rfl
   have hv2:z' % 2 < 2:=by omega
   generalize z' / 2=v1 at hdv hcz hv1 hzag;generalize z' % 2=v2 at hrm hzag hv2;have w5:IntKind.i64.wrap (0 - (v1:Int))=0 - (v1:Int):=by rw[ei] <;> omega
   have w6:IntKind.i64.wrap (0 - (v1:Int) - 1)=zag z'∨v2=0:=by
    by_cases h:v2=0
    ·exact .inr h
    ·left;rw[ei (by omega),hzag,if_neg h];omega
   intros;refine gr 59 62 ?_;refine sJ3 c218r14.eq_1 @hdv @hcz ?_;intros;try refine ed ?_
   refine eL (fun e h=>e 9=.int .i64 i∧e 1=.int .i64 (a:Int)∧e 11=.int .i64 (zag z')∧h=⟨G,[],[]⟩) ?_ ?_
   ·intros;refine gR2 62 64 c218r15.eq_1 @hrm ?_;intros;refine gC ?_;refine gb (fun k4=>?_) (fun k4=>?_)
    ·have k4:¬ v2=0:=by have:=KM k4;omega
     have w6:=w6.resolve_right k4;intros;refine gr 65 68 ?_;refine sJ3 c218r16.eq_1 @w5 @w6 ?_;intros;refine dT ?_;exact eF ⟨eE,eE,eE,rfl⟩
    ·have k4:v2=0:=by have:=KN k4;omega
     rw[if_pos k4]at hzag;intros;refine dT ?_;exact eF ⟨eE,eE,(eJ @hzag),rfl⟩
   rintro e h ⟨e9,e1,e11,rfl⟩;refine dV [1,9,11] ?_;refine sJ3 @e1 @e9 @e11 ?_;intros;refine gr 68 73 ?_;refine sJ3 c218r17.eq_1 @w2 @w3 ?_;intros;refine rW ?_;rw[heq,hend];simp only[if_true];rw[← hv4,← hv3];simp[Int.add_assoc]
  ·have hi8:i≤8:=by omega
   rw[lU hgood (by omega),hu,hq,hqq,← hqq,hz']at heq;have hun2:un'=((128 ^ (i+1):Nat):Int):=by
    have:=Gm hi8;rw[← hun',Nat.pow_succ,hu,IntKind.wrap_u64];omega
   intros;refine gN ?_;intros;refine gR2 14 16 c218r18.eq_1 @hw ?_;intros;refine dT ?_;refine eF ⟨⟨i+1,z',⟨by omega,by omega,s3 hi8,heq⟩,eE,eE,eE,(eJ @hun2),eE,rfl⟩,?_⟩;refine sI ?_;omega
theorem F223:Fun Tryz.prog 223 14 v223 c223 o223:=Fun.mkA Tryz.func223 Tryz.ntmps223
theorem F229:Fun Tryz.prog 229 21 v229 c229 o229:=Fun.mkA Tryz.func229 Tryz.ntmps229
theorem F221:Fun Tryz.prog 221 13 v221 c221 o221:=Fun.mkA Tryz.func221 Tryz.ntmps221
theorem jW{l:KD}{a:Int}(h:(fH l a).2.2=0):∃ k:Nat,0≤a∧(fH l a).2.1=((a.toNat+k:Nat):Int)∧0 < k∧a.toNat+k≤l.length∧I64 (fH l a).1:=by
 unfold fH at h ⊢;split at h
 ·cases h
 rename_i h0;rw[if_neg h0];split at h
 ·rename_i h1;rw[if_pos h1];obtain⟨a1,a2,a3⟩:=Bh _ 0 0 (by omega) (by simp) h1;refine⟨_,by omega,?_,a2,?_,He a1⟩
  ·dsimp only;omega
  ·have:(gvL 0 0 (l.drop a.toNat)).2.2≤l.length - a.toNat:=by simpa using a3
   omega
 ·rename_i h1;exact absurd h h1
def kK(l:KD)(a most:Int):ByteArray × Int × Int :=
 if (fH l a).2.2=0 then
  if (fH l a).1 < 0 then(⟨#[]⟩,0,11)else if most < (fH l a).1 then(⟨#[]⟩,0,2)else if (l.length:Int) - (fH l a).2.1 < (fH l a).1 then(⟨#[]⟩,0,10)
  else(⟨((l.take ((fH l a).2.1.toNat+(fH l a).1.toNat)).drop (fH l a).2.1.toNat).toArray⟩,(fH l a).2.1+(fH l a).1,0)
 else(⟨#[]⟩,0,(fH l a).2.2)
theorem vc(l:KD)(a most:Int)(v:Value)(G:Ks)(hl:SB G v l):
  FnS Tryz.prog 222 #[v,.int .i64 a,.int .i64 most] G (.tuple #[.string (kK l a most).1,.int .i64 (kK l a most).2.1,.int .i64 (kK l a most).2.2]):=by
 obtain⟨A,c,rfl,hc,hm,hA⟩:=id hl;unfold maxLen at hm;refine F222.fnS (by simp) (dY ?_);unfold c222 kK;have hk:=@jW l a;intros;refine gR 0 0 c222r0.eq_1 ?_;intros;refine gR 10 17 c222r1.eq_1 ?_;refine fK (l5 l a _ G hl _ _) ?_;generalize fH l a=q at hk ⊢;obtain⟨n,next,er⟩:=q;dsimp only at hk ⊢;intros;refine gR 18 20 c222r2.eq_1 ?_;intros;refine gC ?_;refine gb (fun h1=>?_) (fun h1=>?_)
 ·have h1:=KM h1;intros;refine gR 20 21 c222r3.eq_1 ?_;intros;refine rW ?_;rw[if_neg h1]
 have h1:er=0:=by simpa using h1
 obtain⟨k,ha,hnx,hk0,hkl,hn⟩:=hk h1;generalize hb:a.toNat+k=b at hnx hkl;subst hnx;rw[if_pos h1];intros;refine gR 22 24 c222r4.eq_1 ?_;intros;refine gC ?_;refine gbD (fun h2=>?_) (fun h2=>?_)
 ·intros;refine gR 0 0 c222r5.eq_1 ?_;intros;refine rW ?_;rw[if_pos h2]
 rw[if_neg h2];intros;refine gR 25 28 c222r6.eq_1 ?_;intros;refine gC ?_;refine gbD (fun h3=>?_) (fun h3=>?_)
 ·intros;refine gR 0 0 c222r7.eq_1 ?_;intros;refine rW ?_;rw[if_pos h3]
 rw[if_neg h3];obtain⟨n,rfl⟩:∃ m:Nat,n=m:=⟨n.toNat,by omega⟩;have w1:IntKind.i64.wrap ((l.length:Int) - b)=(l.length:Int) - b:=by rw[ei] <;> omega
 intros;refine gR2 29 35 c222r8.eq_1 @w1 ?_;intros;refine gC ?_;refine gbD (fun h4=>?_) (fun h4=>?_)
 ·intros;refine gR 0 0 c222r9.eq_1 ?_;intros;refine rW ?_;rw[if_pos (by omega)]
 rw[if_neg (by omega)];have w2:IntKind.i64.wrap ((b:Int)+n)=((b+n:Nat):Int):=by rw[ei] <;> omega
 intros;refine gN ?_;intros;refine gR2 35 45 c222r10.eq_1 @w2 ?_;refine uE b (b+n) c hl rfl rfl rfl (by omega) fun B hB=>?_
 refine sI ?_;refine⟨_,p9 hB rfl,?_⟩;refine sJ @w2 ?_;intros;refine rV ?_;simp only[push_cast,Nat.reduceBEq]
theorem nu(l:KD)(a most:Int)(v:Value)(G:Ks)(hl:SB G v l):
  FnS Tryz.prog 228 #[v,.int .i64 a,.int .i64 most] G (.tuple #[.string (kK l a most).1,.int .i64 (kK l a most).2.1,.int .i64 (kK l a most).2.2]):=by
 obtain⟨A,c,rfl,hc,hm,hA⟩:=id hl;unfold maxLen at hm;refine F228.fnS (by simp) (dY ?_);unfold c228 kK;have hk:=@jW l a;intros;refine gR 0 0 c228r0.eq_1 ?_;intros;refine gR 12 19 c228r1.eq_1 ?_;refine fK (iL l a _ G hl _ _) ?_;generalize fH l a=q at hk ⊢;obtain⟨n,next,er⟩:=q;dsimp only at hk ⊢;intros;refine gR 19 20 c228r2.eq_1 ?_;intros;refine gC ?_;refine gb (fun h1=>?_) (fun h1=>?_)
 ·have h1:=KM h1;intros;refine gR 21 22 c228r3.eq_1 ?_;intros;refine rW ?_;rw[if_neg h1]
 have h1:er=0:=by simpa using h1
 obtain⟨k,ha,hnx,hk0,hkl,hn⟩:=hk h1;generalize hb:a.toNat+k=b at hnx hkl;subst hnx;rw[if_pos h1];intros;refine gN ?_;intros;refine gR 22 23 c228r4.eq_1 ?_;intros;refine gC ?_;refine gbD (fun h2=>?_) (fun h2=>?_)
 ·intros;refine gR 0 0 c228r5.eq_1 ?_;intros;refine rW ?_;rw[if_pos h2]
 rw[if_neg h2];intros;refine gN ?_;intros;refine gR 24 26 c228r6.eq_1 ?_;intros;refine gC ?_;refine gbD (fun h3=>?_) (fun h3=>?_)
 ·intros;refine gR 0 0 c228r7.eq_1 ?_;intros;refine rW ?_;rw[if_pos h3]
 rw[if_neg h3];obtain⟨n,rfl⟩:∃ m:Nat,n=m:=⟨n.toNat,by omega⟩;have w1:IntKind.i64.wrap ((l.length:Int) - b)=(l.length:Int) - b:=by rw[ei] <;> omega
 intros;refine gN ?_;intros;refine gR2 27 32 c228r8.eq_1 @w1 ?_;intros;refine gC ?_;refine gbD (fun h4=>?_) (fun h4=>?_)
 ·intros;refine gR 0 0 c228r9.eq_1 ?_;intros;refine rW ?_;rw[if_pos (by omega)]
 rw[if_neg (by omega)];have w2:IntKind.i64.wrap ((b:Int)+n)=((b+n:Nat):Int):=by rw[ei] <;> omega
 intros;refine gN ?_;intros;refine gR2 33 43 c228r10.eq_1 @w2 ?_;refine uE b (b+n) c hl rfl rfl rfl (by omega) fun B hB=>?_
 refine sI ?_;refine⟨_,p9 hB rfl,?_⟩;refine sJ @w2 ?_;intros;refine rV ?_;simp only[push_cast,Nat.reduceBEq]
theorem vR(l:KD)(a:Int)(v:Value)(G:Ks)(hl:SB G v l):
  FnS Tryz.prog 221 #[v,.int .i64 a] G (.tuple #[.string (kK l a 64).1,.int .i64 (kK l a 64).2.1,.int .i64 (kK l a 64).2.2]):=by
 refine F221.fnS (by simp) (dY ?_);unfold c221;intros;refine gR 0 0 c221r0.eq_1 ?_;intros;refine gR 7 13 c221r1.eq_1 ?_;refine fK (vc l a 64 _ G hl _ _) ?_;intros;refine rV ?_;simp only[push_cast,Nat.reduceBEq]
def bes(n d:Int):Int:=if d < -1099511627776∨1099511627776 < d then -1 else n+d
theorem qt(n d:Int)(hn:0≤n∧n≤1099511627776)(G:Ks):FnS Tryz.prog 223 #[.int .i64 n,.int .i64 d] G (.int .i64 (bes n d)):=by
 refine F223.fnS (by simp) (dY ?_);unfold c223;intros;refine gR 0 0 c223r0.eq_1 ?_;have hbad:(d < -1099511627776∨1099511627776 < d)→∀ (fr:KA) (e:Env),go none Tryz.prog 14 v223.1 v223.2 (fI o223 fun v h=>v=.int .i64 (bes n d)) (Td.s ((SC.reg false c223r2).seq .ret) :: fr) e ⟨G,[],[]⟩:=fun hx fr e=>by
  intros;refine gR 0 0 c223r2.eq_1 ?_;intros;refine rW ?_;rw[bes,if_pos hx]
 intros;refine gR 5 10 c223r1.eq_1 ?_;refine gd (fun h1=>?_) (fun h1=>?_)
 ·refine sI ?_;intros;refine gC ?_;exact hbad (.inl (KM h1)) _ _
 have h1:=KN h1;refine sI ?_;intros;refine gC ?_;refine gb (fun h2=>?_) (fun h2=>?_)
 ·exact hbad (.inr (KM h2)) _ _
 have h2:=KN h2;have w:IntKind.i64.wrap (n+d)=n+d:=by rw[ei] <;> omega
 intros;refine gN ?_;intros;refine gR2 11 14 c223r3.eq_1 @w ?_;intros;refine rW ?_;rw[bes,if_neg (by omega)]
def u9(n d:Int):Int:=if d < -1099511627776∨1099511627776 < d∨inO (n+d)=false then -1 else n+d
theorem oM(n d:Int)(hn:0≤n∧n≤1099511627776)(G:Ks):FnS Tryz.prog 229 #[.int .i64 n,.int .i64 d] G (.int .i64 (u9 n d)):=by
 refine F229.fnS (by simp) (dY ?_);unfold c229;intros;refine gR 0 0 c229r0.eq_1 ?_;have hbad:(d < -1099511627776∨1099511627776 < d∨inO (n+d)=false)→∀ (fr:KA) (e:Env),go none Tryz.prog 21 v229.1 v229.2 (fI o229 fun v h=>v=.int .i64 (u9 n d)) (Td.s ((SC.reg false c229r2).seq .ret) :: fr) e ⟨G,[],[]⟩:=fun hx fr e=>by
  intros;refine gR 0 0 c229r2.eq_1 ?_;intros;refine rW ?_;rw[u9,if_pos hx]
 intros;refine gR 5 17 c229r1.eq_1 ?_;refine gd (fun h1=>?_) (fun h1=>?_)
 ·refine sI ?_;intros;refine gC ?_;exact hbad (.inl (KM h1)) _ _
 have h1:=KN h1;refine sI ?_;refine gd (fun h2=>?_) (fun h2=>?_)
 ·refine sI ?_;intros;refine gC ?_;exact hbad (.inr (.inl (KM h2))) _ _
 have h2:=KN h2;have w:IntKind.i64.wrap (n+d)=n+d:=by rw[ei] <;> omega
 refine sJ @w ?_;refine fK (s8 (n+d) G _ _) ?_;intros;refine gC ?_;refine gb (fun h3=>?_) (fun h3=>?_)
 ·exact hbad (.inr (.inr (by simpa using h3))) _ _
 have h3:inO (n+d)=true:=by simpa using h3
 intros;refine gN ?_;intros;refine gR2 18 21 c229r3.eq_1 @w ?_;intros;refine rW ?_;rw[u9,if_neg (by rw[h3];simp;omega)]
theorem F224:Fun Tryz.prog 224 32 v224 c224 o224:=Fun.mkA Tryz.func224 Tryz.ntmps224
theorem F225:Fun Tryz.prog 225 32 v225 c225 o225:=Fun.mkA Tryz.func225 Tryz.ntmps225
theorem F227:Fun Tryz.prog 227 32 v227 c227 o227:=Fun.mkA Tryz.func227 Tryz.ntmps227
theorem dZ{h:H}{b o:Nat}{cs:Kt}{v:Value}(hm:Item.blk b cs∈h.L)(hv:cs[o]?=some v):LdN h (.pointer (some ⟨b,o,none⟩)) none v:=⟨_,rfl,.blk hm hv⟩
def nx{α:Type}(e:Int)(z:α)(x:Int)(r:α × Int × Int):α × Int × Int:=if e=0 then r else(z,x,e)
theorem rx{α:Type}{e:Int}{z:α}{x:Int}{r:α × Int × Int}(h:e=0):nx e z x r=r:=if_pos h
theorem DS{α:Type}{e:Int}{z:α}{x:Int}{r:α × Int × Int}(h:¬ e=0):nx e z x r=(z,x,e):=if_neg h
theorem qj(l:KD)(a e:Int)(v:Value)(b:Nat)(G:Ks)(hl:SB G v l)(g:Nat)(rd:KD→Int→Int × Int × Int)
  (hg:FnS Tryz.prog g #[v,.int .i64 a] G (.tuple #[.int .i64 (rd l a).1,.int .i64 (rd l a).2.1,.int .i64 (rd l a).2.2])) :
  FnO Tryz.prog 224 #[.pointer (some ⟨b,0,none⟩),.func (.func g) #[] #[]] G [.blk b [v,.int .i64 a,.int .i64 e]] (fun _ L' r=>r=.int .i64 (nx e 0 a (rd l a)).1∧L'=[.blk b [v,.int .i64 (nx e 0 a (rd l a)).2.1,.int .i64 (nx e 0 a (rd l a)).2.2]]):=by
 obtain⟨A,c,rfl,-⟩:=hl;refine F224.fnO (by simp) (ec dS) (dY ?_);unfold c224;intros;refine gR 0 0 c224r0.eq_1 ?_;intros;refine gR 0 0 c224r1.eq_1 ?_;intros;refine gR 6 10 c224r2.eq_1 ?_;refine⟨_,dZ (.head _) rfl,?_⟩;refine sI ?_;intros;refine gC ?_;refine gbD (fun h1=>?_) (fun h1=>?_)
 ·intros;refine dT ?_;refine qe _ KJ (by decide) ?_;refine sJ c224r3.eq_1 ?_;refine⟨_,dZ (.head _) rfl,?_⟩;refine sI ?_;refine⟨_,dZ (.head _) rfl,?_⟩;refine sI ?_;refine .inl ⟨_,_,rfl,?_⟩;refine fK (hg _ _) ?_;refine gG ?_;refine sI ?_;refine ek [] [] rfl (by simp) ⟨rfl,rfl⟩ ?_;refine sI ?_;refine gG ?_;refine sI ?_;refine ek [] [] rfl (by simp) ⟨rfl,rfl⟩ ?_;refine sI ?_;intros;refine dT ?_
  intros;refine gR 31 32 c224r4.eq_1 ?_;intros;refine dT ?_;refine ea (ee _ rfl KJ (ec dS) ?_);rw[rx h1];exact⟨rfl,rfl⟩
 ·intros;refine gN ?_;intros;refine gR 31 32 c224r4.eq_1 ?_;intros;refine dT ?_;refine ea (ee _ rfl KJ (ec dS) ?_);rw[DS h1];exact⟨rfl,rfl⟩
theorem yH(l:KD)(a e:Int)(v:Value)(b:Nat)(G:Ks)(hl:SB G v l)(g:Nat)(rd:KD→Int→Bool × Int × Int)
  (hg:FnS Tryz.prog g #[v,.int .i64 a] G (.tuple #[.bool (rd l a).1,.int .i64 (rd l a).2.1,.int .i64 (rd l a).2.2])) :
  FnO Tryz.prog 225 #[.pointer (some ⟨b,0,none⟩),.func (.func g) #[] #[]] G [.blk b [v,.int .i64 a,.int .i64 e]] (fun _ L' r=>r=.bool (nx e false a (rd l a)).1∧L'=[.blk b [v,.int .i64 (nx e false a (rd l a)).2.1,.int .i64 (nx e false a (rd l a)).2.2]]):=by
 obtain⟨A,c,rfl,-⟩:=hl;refine F225.fnO (by simp) (ec dS) (dY ?_);unfold c225;intros;refine gR 0 0 c225r0.eq_1 ?_;intros;refine gR 0 0 c225r1.eq_1 ?_;intros;refine gR 6 10 c225r2.eq_1 ?_;refine⟨_,dZ (.head _) rfl,?_⟩;refine sI ?_;intros;refine gC ?_;refine gbD (fun h1=>?_) (fun h1=>?_)
 ·intros;refine dT ?_;refine qe _ KJ (by decide) ?_;refine sJ c225r3.eq_1 ?_;refine⟨_,dZ (.head _) rfl,?_⟩;refine sI ?_;refine⟨_,dZ (.head _) rfl,?_⟩;refine sI ?_;refine .inl ⟨_,_,rfl,?_⟩;refine fK (hg _ _) ?_;refine gG ?_;refine sI ?_;refine ek [] [] rfl (by simp) ⟨rfl,rfl⟩ ?_;refine sI ?_;refine gG ?_;refine sI ?_;refine ek [] [] rfl (by simp) ⟨rfl,rfl⟩ ?_;refine sI ?_;intros;refine dT ?_
  intros;refine gR 31 32 c225r4.eq_1 ?_;intros;refine dT ?_;refine ea (ee _ rfl KJ (ec dS) ?_);rw[rx h1];exact⟨rfl,rfl⟩
 ·intros;refine gN ?_;intros;refine gR 31 32 c225r4.eq_1 ?_;intros;refine dT ?_;refine ea (ee _ rfl KJ (ec dS) ?_);rw[DS h1];exact⟨rfl,rfl⟩
theorem qP(l:KD)(a e:Int)(v:Value)(b:Nat)(G:Ks)(hl:SB G v l)(g:Nat)(rd:KD→Int→ByteArray × Int × Int)
  (hg:FnS Tryz.prog g #[v,.int .i64 a] G (.tuple #[.string (rd l a).1,.int .i64 (rd l a).2.1,.int .i64 (rd l a).2.2])) :
  FnO Tryz.prog 227 #[.pointer (some ⟨b,0,none⟩),.func (.func g) #[] #[]] G [.blk b [v,.int .i64 a,.int .i64 e]] (fun _ L' r=>r=.string (nx e ⟨#[]⟩ a (rd l a)).1∧L'=[.blk b [v,.int .i64 (nx e ⟨#[]⟩ a (rd l a)).2.1,.int .i64 (nx e ⟨#[]⟩ a (rd l a)).2.2]]):=by
 obtain⟨A,c,rfl,-⟩:=hl;refine F227.fnO (by simp) (ec dS) (dY ?_);unfold c227;intros;refine gR 0 0 c227r0.eq_1 ?_;intros;refine gR 0 0 c227r1.eq_1 ?_;intros;refine gR 6 10 c227r2.eq_1 ?_;refine⟨_,dZ (.head _) rfl,?_⟩;refine sI ?_;intros;refine gC ?_;refine gbD (fun h1=>?_) (fun h1=>?_)
 ·intros;refine dT ?_;refine qe _ KJ (by decide) ?_;refine sJ c227r3.eq_1 ?_;refine⟨_,dZ (.head _) rfl,?_⟩;refine sI ?_;refine⟨_,dZ (.head _) rfl,?_⟩;refine sI ?_;refine .inl ⟨_,_,rfl,?_⟩;refine fK (hg _ _) ?_;refine gG ?_;refine sI ?_;refine ek [] [] rfl (by simp) ⟨rfl,rfl⟩ ?_;refine sI ?_;refine gG ?_;refine sI ?_;refine ek [] [] rfl (by simp) ⟨rfl,rfl⟩ ?_;refine sI ?_;intros;refine dT ?_
  intros;refine gR 31 32 c227r4.eq_1 ?_;intros;refine dT ?_;refine ea (ee _ rfl KJ (ec dS) ?_);rw[rx h1];exact⟨rfl,rfl⟩
 ·intros;refine gN ?_;intros;refine gR 31 32 c227r4.eq_1 ?_;intros;refine dT ?_;refine ea (ee _ rfl KJ (ec dS) ?_);rw[DS h1];exact⟨rfl,rfl⟩
theorem F214:Fun Tryz.prog 214 82 v214 c214 o214:=Fun.mkA Tryz.func214 Tryz.ntmps214
def kX:Rec:=⟨0,⟨#[]⟩,⟨#[]⟩,false,0⟩
def g1(l:KD)(a:Int):Int × Int × Int:=nx 0 0 a (fH l a)
def g2(l:KD)(a:Int):Int × Int × Int:=nx (g1 l a).2.2 0 (g1 l a).2.1 (fH l (g1 l a).2.1)
def g3(l:KD)(a:Int):Bool × Int × Int:=nx (g2 l a).2.2 false (g2 l a).2.1 (qE l (g2 l a).2.1.toNat)
def g4(l:KD)(a:Int):ByteArray × Int × Int:=nx (g3 l a).2.2 ⟨#[]⟩ (g3 l a).2.1 (kK l (g3 l a).2.1 64)
def g5(l:KD)(a:Int):ByteArray × Int × Int:=nx (g4 l a).2.2 ⟨#[]⟩ (g4 l a).2.1 (kK l (g4 l a).2.1 64)
def sg(l:KD)(a base stamp:Int):Rec:=⟨bes base (g1 l a).1,(g4 l a).1,(g5 l a).1,(g3 l a).1,bes stamp (g2 l a).1⟩
def getR(l:KD)(a base stamp:Int):Rec × Int × Int :=
 if inO base=true∧inO stamp=true∧0≤a∧a≤l.length then
  if (g5 l a).2.2=0 then(if kb (sg l a base stamp)=0 then(sg l a base stamp,(g5 l a).2.1,0)else(kX,0,1))else(kX,0,(g5 l a).2.2)
 else(kX,0,1)
theorem ku(l:KD)(a:Int):0≤(fH l a).2.1:=by
 by_cases h:(fH l a).2.2=0
 ·obtain⟨k,h1,h2,-⟩:=jW h;omega
 ·unfold fH at h ⊢;split
  ·simp
  ·rename_i h0;rw[if_neg h0]at h;split
   ·rename_i h1;rw[if_pos h1]at h;simp at h
   ·simp
theorem Fk(l:KD)(a:Int):0≤(g2 l a).2.1:=by
 unfold g2 nx;split
 ·exact ku _ _
 ·unfold g1;rw[rx rfl];exact ku _ _
theorem DY(l:KD)(a base stamp:Int)(v:Value)(G:Ks)(hl:SB G v l):
  FnE Tryz.prog 214 #[v,.int .i64 a,.int .i64 base,.int .i64 stamp] G (fun r=>r=.tuple #[.agg (gT (getR l a base stamp).1).toArray,.int .i64 (getR l a base stamp).2.1,.int .i64 (getR l a base stamp).2.2]):=by
 obtain⟨A,c,rfl,hc,hm,hA⟩:=id hl;refine F214.fnE (by simp) (dY ?_);unfold c214;have hck:=fun x=>pu x
 unfold gT at hck;intros;refine gR 0 0 c214r0.eq_1 ?_
 have hbad:∀ (fr:KA) (e:Env),¬ (inO base=true∧inO stamp=true∧0≤a∧a≤l.length)→go none Tryz.prog 82 v214.1 v214.2 (fI o214 fun v _=>v=.tuple #[.agg (gT (getR l a base stamp).1).toArray,.int .i64 (getR l a base stamp).2.1,.int .i64 (getR l a base stamp).2.2]) (Td.s ((SC.reg false c214r2).seq .ret) :: fr) e ⟨G,[.reg 8 [.int .i64 0,.string ⟨#[]⟩,.string ⟨#[]⟩,.bool false,.int .i64 0]],[]⟩:=fun fr e hx=>by
  intros;refine gR 31 32 c214r2.eq_1 ?_;intros;refine rW ?_;rw[getR,if_neg hx];rfl
 intros;refine gR 13 30 c214r1.eq_1 ?_;refine fK (uH base G _ _) ?_;refine gd (fun h1=>?_) (fun h1=>?_)
 ·refine sI ?_;intros;refine gC ?_;exact hbad _ _ fun h=>by rw[h.1]at h1;cases h1
 refine sI ?_;refine fK (uH stamp G _ _) ?_;refine gd (fun h2=>?_) (fun h2=>?_)
 ·refine sI ?_;intros;refine gC ?_;exact hbad _ _ fun h=>by rw[h.2.1]at h2;cases h2
 refine sI ?_;refine gd (fun h3=>?_) (fun h3=>?_)
 ·refine sI ?_;intros;refine gC ?_;exact hbad _ _ fun h=>by have:=KM h3;omega
 refine sI ?_;intros;refine gC ?_;refine gb (fun h4=>?_) (fun h4=>?_)
 ·exact hbad _ _ fun h=>by have:=KM h4;omega
 clear hbad;have h1:inO base=true:=by simpa using h1
 have h2:inO stamp=true:=by simpa using h2
 have h3:=KN h3;have h4:=KN h4;have hb:0≤base∧base≤1099511627776:=by simpa [inO]using h1
 have hs:0≤stamp∧stamp≤1099511627776:=by simpa [inO]using h2
 rw[show getR l a base stamp=(if (g5 l a).2.2=0 then(if kb (sg l a base stamp)=0 then(sg l a base stamp,(g5 l a).2.1,0)else(kX,0,1))else(kX,0,(g5 l a).2.2))from if_pos ⟨h1,h2,by omega,by omega⟩];intros;refine gN ?_;intros;refine gR 32 36 c214r3.eq_1 ?_;intro b hb0;refine sI ?_;intros;refine gR 0 0 c214r4.eq_1 ?_;intros;refine gR 36 40 c214r5.eq_1 ?_
 refine(qj l a 0 _ b G hl 213 fH (l5 l a _ G hl) _ []).mono ?_;rintro r h' ⟨G1,L',rfl,hg1,rfl,rfl⟩;rw[show nx 0 0 a (fH l a)=g1 l a from rfl];refine sI ?_;refine fK (qt base _ hb G1 _ _) ?_;intros;refine gR 41 45 c214r6.eq_1 ?_;have hl1:=SB.le hl hg1;refine(qj l (g1 l a).2.1 (g1 l a).2.2 _ b G1 hl1 213 fH (l5 l _ _ G1 hl1) _ []).mono ?_;rintro r h' ⟨G2,L',rfl,hg2,rfl,rfl⟩
 rw[show nx (g1 l a).2.2 0 (g1 l a).2.1 (fH l (g1 l a).2.1)=g2 l a from rfl];refine sI ?_;refine fK (qt stamp _ hs G2 _ _) ?_;intros;refine gR 46 48 c214r7.eq_1 ?_;have hl2:=SB.le hl1 hg2;have hfl:=C7 l (g2 l a).2.1.toNat _ G2 hl2;rw[Int.toNat_of_nonneg (Fk l a)]at hfl;refine(yH l (g2 l a).2.1 (g2 l a).2.2 _ b G2 hl2 226 (fun l a=>qE l a.toNat) hfl _ []).mono ?_;rintro r h' ⟨G3,L',rfl,hg3,rfl,rfl⟩
 rw[show nx (g2 l a).2.2 false (g2 l a).2.1 (qE l (g2 l a).2.1.toNat)=g3 l a from rfl];have hl3:=SB.le hl2 hg3;refine sI ?_;intros;refine gR 49 55 c214r8.eq_1 ?_;refine(qP l (g3 l a).2.1 (g3 l a).2.2 _ b G3 hl3 221 (fun l a=>kK l a 64) (vR l _ _ G3 hl3) _ []).mono ?_;rintro r h' ⟨G4,L',rfl,hg4,rfl,rfl⟩;rw[show nx (g3 l a).2.2 ⟨#[]⟩ (g3 l a).2.1 (kK l (g3 l a).2.1 64)=g4 l a from rfl]
 have hl4:=SB.le hl3 hg4;refine sI ?_;refine(qP l (g4 l a).2.1 (g4 l a).2.2 _ b G4 hl4 221 (fun l a=>kK l a 64) (vR l _ _ G4 hl4) _ []).mono ?_;rintro r h' ⟨G5,L',rfl,hg5,rfl,rfl⟩;rw[show nx (g4 l a).2.2 ⟨#[]⟩ (g4 l a).2.1 (kK l (g4 l a).2.1 64)=g5 l a from rfl];refine sI ?_;intro _;have hrr:sg l a base stamp=⟨bes base (g1 l a).1,(g4 l a).1,(g5 l a).1,(g3 l a).1,bes stamp (g2 l a).1⟩:=rfl
 generalize bes base (g1 l a).1=q0 at hrr ⊢;generalize (g4 l a).1=q1 at hrr ⊢;generalize (g5 l a).1=q2 at hrr ⊢;generalize (g3 l a).1=q3 at hrr ⊢;generalize bes stamp (g2 l a).1=q4 at hrr ⊢;generalize (g5 l a).2.1=x5;generalize (g5 l a).2.2=e5;generalize sg l a base stamp=R at hrr ⊢;have hckR:=hck R;subst hrr;dsimp only at hckR;intros;try refine ed ?_
 refine eL (fun e h=>e 11=.pointer (some ⟨b,0,none⟩)∧h=⟨G5,[.blk b [.slice A l.length c,.int .i64 x5,.int .i64 (if e5=0 then kb ⟨q0,q1,q2,q3,q4⟩else e5)],.reg 8 [.int .i64 q0,.string q1,.string q2,.bool q3,.int .i64 q4]],[]⟩) ?_ ?_
 ·intros;refine gR 57 61 c214r9.eq_1 ?_;refine⟨_,dZ (.head _) rfl,?_⟩;refine sI ?_;intros;refine gC ?_;refine gbD (fun k1=>?_) (fun k1=>?_)
  ·intros;refine gR 62 67 c214r10.eq_1 ?_;refine fK (hckR G5 _ _) ?_;refine ek [] [_] rfl (by simp) ⟨rfl,rfl⟩ ?_;refine sI ?_;intros;refine dT ?_;exact eF ⟨eE,by rw[if_pos k1]⟩
  ·intros;refine dT ?_;exact eF ⟨eE,by rw[if_neg k1]⟩
 rintro e h ⟨e11,rfl⟩;refine dV [11] ?_;refine sJ @e11 ?_;generalize hce:kb ⟨q0,q1,q2,q3,q4⟩=ce;have hck01:ce=0∨ce=1:=by
  rw[← hce];unfold kb;split
  ·exact .inl rfl
  ·exact .inr rfl
 generalize he':(if e5=0 then ce else e5)=e';intros;refine gR 67 71 c214r11.eq_1 ?_;refine⟨_,dZ (.head _) rfl,?_⟩;refine sI ?_;intros;refine gC ?_;refine gb (fun k1=>?_) (fun k1=>?_)
 ·have k1:=KM k1;intros;refine dT ?_;refine qe _ (.cons_cons _ (.cons _ KJ)) (by decide) ?_;refine sJ c214r12.eq_1 ?_;refine⟨_,dZ (.head _) rfl,?_⟩;refine sI ?_;refine⟨ef KO (.cons_cons _ (.cons _ KJ)),?_⟩;refine sI ?_;intros;refine rW ?_;by_cases h5:e5=0
  ·rw[if_pos h5]at he';subst he';rw[if_pos h5,if_neg k1,hck01.resolve_left k1];rfl
  ·rw[if_neg h5]at he';subst he';rw[if_neg h5];rfl
 ·have k1:e'=0:=by simpa using k1
  intros;refine gN ?_;intros;refine dT ?_;refine qe _ KJ (by decide) ?_;refine sJ c214r13.eq_1 ?_;refine⟨_,dZ (.head _) rfl,?_⟩;refine sI ?_;intros;refine rW ?_;by_cases h5:e5=0
  ·rw[if_pos h5]at he';rw[if_pos h5,if_pos (by rw[he'];exact k1)];rfl
  ·rw[if_neg h5]at he';rw[he']at h5;exact absurd k1 h5
theorem F219:Fun Tryz.prog 219 121 v219 c219 o219:=Fun.mkA Tryz.func219 Tryz.ntmps219
theorem CP(l:KD)(a:Int):g1 l a=fH l a:=rx rfl
theorem pU{l:KD}{a base stamp:Int}(h:inO base=true∧inO stamp=true∧0≤a∧a≤l.length):getR l a base stamp=(if (g5 l a).2.2=0 then(if kb (sg l a base stamp)=0 then(sg l a base stamp,(g5 l a).2.1,0)else(kX,0,1))else(kX,0,(g5 l a).2.2)):=if_pos h
theorem xJ{l:KD}{a base stamp:Int}(h:inO base=true∧inO stamp=true∧0≤a∧a≤l.length)(h5:¬ (g5 l a).2.2=0):getR l a base stamp=(kX,0,(g5 l a).2.2):=by rw[pU h,if_neg h5]
theorem v8{l:KD}{a base stamp:Int}(h:inO base=true∧inO stamp=true∧0≤a∧a≤l.length)(h4:¬ (g4 l a).2.2=0):getR l a base stamp=(kX,0,(g4 l a).2.2):=by
 have h5:(g5 l a).2.2=(g4 l a).2.2:=by rw[g5,DS h4]
 rw[xJ h (by rw[h5];exact h4),h5]
theorem tK{l:KD}{a base stamp:Int}(h:inO base=true∧inO stamp=true∧0≤a∧a≤l.length)(h3:¬ (g3 l a).2.2=0):getR l a base stamp=(kX,0,(g3 l a).2.2):=by
 have h4:(g4 l a).2.2=(g3 l a).2.2:=by rw[g4,DS h3]
 rw[v8 h (by rw[h4];exact h3),h4]
theorem vq{l:KD}{a base stamp:Int}(h:inO base=true∧inO stamp=true∧0≤a∧a≤l.length)(h2:¬ (g2 l a).2.2=0):getR l a base stamp=(kX,0,(g2 l a).2.2):=by
 have h3:(g3 l a).2.2=(g2 l a).2.2:=by rw[g3,DS h2]
 rw[tK h (by rw[h3];exact h2),h3]
theorem BH{l:KD}{a base stamp:Int}(h:inO base=true∧inO stamp=true∧0≤a∧a≤l.length)(h1:¬ (g1 l a).2.2=0):getR l a base stamp=(kX,0,(g1 l a).2.2):=by
 have h2:(g2 l a).2.2=(g1 l a).2.2:=by rw[g2,DS h1]
 rw[vq h (by rw[h2];exact h1),h2]
def sL(l:KD)(a base stamp:Int):Rec:=⟨u9 base (g1 l a).1,(g4 l a).1,(g5 l a).1,(g3 l a).1,u9 stamp (g2 l a).1⟩
theorem FL(n d:Int):u9 n d=bes n d∨(inO (u9 n d)=false∧inO (bes n d)=false):=by
 unfold u9 bes;by_cases h:d < -1099511627776∨1099511627776 < d
 ·left;rw[if_pos h,if_pos (by omega)]
 ·rw[if_neg h];by_cases h2:inO (n+d)=false
  ·right;rw[if_pos (.inr (.inr h2))];exact⟨rfl,h2⟩
  ·left;rw[if_neg (fun hc=>by rcases hc with hc | hc | hc;omega;omega;exact h2 hc)]
theorem FB(l:KD)(a base stamp:Int):(sL l a base stamp=sg l a base stamp)∨(kb (sL l a base stamp)=1∧kb (sg l a base stamp)=1):=by
 rcases FL base (g1 l a).1 with h1 | ⟨h1,h2⟩
 ·rcases FL stamp (g2 l a).1 with h3 | ⟨h3,h4⟩
  ·left;rw[sL,sg,h1,h3]
  ·right;exact⟨iF (.inr (.inl h3)),iF (.inr (.inl h4))⟩
 ·right;exact⟨iF (.inl h1),iF (.inl h2)⟩
theorem vG{h:H}{b n:Nat}{cs:Kt}(hm:Item.blk b cs∈h.L)(hn:cs.length=n):LdN h (.pointer (some ⟨b,0,none⟩)) (some n) (.agg cs.toArray) :=
 ⟨_,cs,rfl,rfl,hn,fun j u hu=>by rw[gB];exact .blk hm hu⟩
theorem zd(l:KD)(a base stamp:Int)(v:Value)(G:Ks)(hl:SB G v l):
  FnE Tryz.prog 219 #[v,.int .i64 a,.int .i64 base,.int .i64 stamp] G (fun r=>r=.tuple #[.agg (gT (getR l a base stamp).1).toArray,.int .i64 (getR l a base stamp).2.1,.int .i64 (getR l a base stamp).2.2]):=by
 obtain⟨A,c,rfl,hc,hm,hA⟩:=id hl;unfold maxLen at hm;refine F219.fnE (by simp) (dY ?_);unfold c219;have hck:=fun x=>oc x
 unfold gT at hck;intros;refine gR 0 0 c219r0.eq_1 ?_;intros;refine gR 25 26 c219r1.eq_1 ?_
 have hb3:∀ (fr:KA) (e:Env),getR l a base stamp=(kX,0,1)→go none Tryz.prog 121 v219.1 v219.2 (fI o219 fun v _=>v=.tuple #[.agg (gT (getR l a base stamp).1).toArray,.int .i64 (getR l a base stamp).2.1,.int .i64 (getR l a base stamp).2.2]) (Td.s ((SC.reg false c219r3).seq .ret) :: fr) e ⟨G,[.reg 11 [.int .i64 0,.string ⟨#[]⟩,.string ⟨#[]⟩,.bool false,.int .i64 0],.reg 8 [.int .i64 0,.string ⟨#[]⟩,.string ⟨#[]⟩,.bool false,.int .i64 0]],[]⟩:=by
  intro fr e hx;intros;refine gR 44 45 c219r3.eq_1 ?_;intros;refine rW ?_;rw[hx];rfl
 have hng:¬ (inO base=true∧inO stamp=true∧0≤a∧a≤l.length)→getR l a base stamp=(kX,0,1):=fun h=>if_neg h
 intros;refine gR 26 43 c219r2.eq_1 ?_;refine fK (s8 base G _ _) ?_;refine gd (fun h1=>?_) (fun h1=>?_)
 ·refine sI ?_;intros;refine gC ?_;exact hb3 _ _ (hng fun h=>by rw[h.1]at h1;cases h1)
 refine sI ?_;refine fK (s8 stamp G _ _) ?_;refine gd (fun h2=>?_) (fun h2=>?_)
 ·refine sI ?_;intros;refine gC ?_;exact hb3 _ _ (hng fun h=>by rw[h.2.1]at h2;cases h2)
 refine sI ?_;refine gd (fun h3=>?_) (fun h3=>?_)
 ·refine sI ?_;intros;refine gC ?_;exact hb3 _ _ (hng fun h=>by have:=KM h3;omega)
 refine sI ?_;intros;refine gC ?_;refine gb (fun h4=>?_) (fun h4=>?_)
 ·exact hb3 _ _ (hng fun h=>by have:=KM h4;omega)
 have h1:inO base=true:=by simpa using h1
 have h2:inO stamp=true:=by simpa using h2
 have h3:=KN h3;have h4:=KN h4;have hb:0≤base∧base≤1099511627776:=by simpa [inO]using h1
 have hs:0≤stamp∧stamp≤1099511627776:=by simpa [inO]using h2
 have hin:inO base=true∧inO stamp=true∧0≤a∧a≤l.length:=⟨h1,h2,by omega,by omega⟩;clear hb3 hng
 -- the first number
 intros;refine gN ?_;intros;refine gR 45 52 c219r4.eq_1 ?_;refine fK (iL l a _ G hl _ _) ?_;rw[← CP];intros;refine gR 52 53 c219r5.eq_1 ?_;intros;refine gC ?_;refine gb (fun k1=>?_) (fun k1=>?_)
 ·have k1:=KM k1;intros;refine gR 54 56 c219r6.eq_1 ?_;intros;refine rW ?_;rw[BH hin k1];rfl
 have k1:(g1 l a).2.2=0:=by simpa using k1
 have e2:g2 l a=fH l (g1 l a).2.1:=rx k1
 -- the second one
 intros;refine gN ?_;intros;refine gR 56 63 c219r7.eq_1 ?_;refine fK (iL l _ _ G hl _ _) ?_;rw[← e2];intros;refine gR 63 64 c219r8.eq_1 ?_;intros;refine gC ?_;refine gb (fun k2=>?_) (fun k2=>?_)
 ·have k2:=KM k2;intros;refine gR 65 67 c219r9.eq_1 ?_;intros;refine rW ?_;rw[vq hin k2];rfl
 have k2:(g2 l a).2.2=0:=by simpa using k2
 have e3:g3 l a=qE l (g2 l a).2.1.toNat:=rx k2;have hj0:=Fk l a;generalize hj:(g2 l a).2.1=j at e3 hj0 ⊢;obtain⟨j,rfl⟩:∃ n:Nat,j=n:=⟨j.toNat,by omega⟩;rw[Int.toNat_natCast]at e3
 -- the byte
 intros;refine gN ?_;intros;refine gR 67 70 c219r10.eq_1 ?_;intros;refine gC ?_;refine gbD (fun k3=>?_) (fun k3=>?_)
 ·have e3':g3 l a=(false,0,10):=by rw[e3,qE,List.getElem?_eq_none (by omega)]
  intros;refine gR 71 72 c219r11.eq_1 ?_;intros;refine rW ?_;rw[tK hin (by rw[e3'];decide),e3'];rfl
 obtain⟨y,hy⟩:∃ y,l[j]?=some y:=⟨l[j]'(by omega),getElem?_eq_getElem _⟩;rw[qE,hy]at e3;dsimp only at e3;intros;refine gN ?_;intros;refine gR 72 76 c219r12.eq_1 ?_;refine hA.x_l1 hy rfl rfl ?_;rintro a1 ha1 u hu;cases hu;refine sI ?_;intros;refine gC ?_;refine gbD (fun k4=>?_) (fun k4=>?_)
 ·rw[if_pos (by omega)]at e3;intros;refine gR 77 78 c219r13.eq_1 ?_;intros;refine rW ?_;rw[tK hin (by rw[e3];decide),e3];rfl
 rw[if_neg (by omega)]at e3;have hw:=eW j l.length (by omega) (by unfold maxLen;omega);have e4:g4 l a=kK l ((j:Int)+1) 64:=by rw[g4,rx (by rw[e3]),e3]
 -- the texts
 intros;refine gN ?_;intros;refine gR2 78 86 c219r14.eq_1 @hw ?_;refine fK (nu l _ 64 _ G hl _ _) ?_;rw[← e4];intros;refine gR 86 87 c219r15.eq_1 ?_;intros;refine gC ?_;refine gb (fun k5=>?_) (fun k5=>?_)
 ·have k5:=KM k5;intros;refine gR 88 90 c219r16.eq_1 ?_;intros;refine rW ?_;rw[v8 hin k5];rfl
 have k5:(g4 l a).2.2=0:=by simpa using k5
 have e5:g5 l a=kK l (g4 l a).2.1 64:=rx k5;intros;refine gN ?_;intros;refine gR 90 97 c219r17.eq_1 ?_;refine fK (nu l _ 64 _ G hl _ _) ?_;rw[← e5];intros;refine gR 97 98 c219r18.eq_1 ?_;intros;refine gC ?_;refine gb (fun k6=>?_) (fun k6=>?_)
 ·have k6:=KM k6;intros;refine gR 99 101 c219r19.eq_1 ?_;intros;refine rW ?_;rw[xJ hin k6];rfl
 have k6:(g5 l a).2.2=0:=by simpa using k6
 rw[pU hin,if_pos k6];have hrr:sL l a base stamp=⟨u9 base (g1 l a).1,(g4 l a).1,(g5 l a).1,decide ((y.toNat:Int)=1),u9 stamp (g2 l a).1⟩:=by
  rw[sL,e3];congr 1;simp;omega
 have hchk:=FB l a base stamp;generalize (g4 l a).1=q1 at hrr ⊢;generalize (g5 l a).1=q2 at hrr ⊢;have hb1:=oM base (g1 l a).1 hb G;have hb2:=oM stamp (g2 l a).1 hs G;generalize u9 base (g1 l a).1=q0 at hrr hb1;generalize u9 stamp (g2 l a).1=q4 at hrr hb2;generalize hq3:decide ((y.toNat:Int)=1)=q3 at hrr;have hckR:=hck (sL l a base stamp);generalize sL l a base stamp=RX at hrr hckR hchk;subst hrr
 dsimp only at hckR;intros;refine gN ?_;intros;try refine ed ?_
 refine eL (fun e h=>∃ bk,e 24=.pointer (some ⟨bk,0,none⟩)∧e 22=.int .i64 (g5 l a).2.1∧h=⟨G,[.blk bk [.int .i64 q0,.string q1,.string q2,.bool q3,.int .i64 q4],.reg 11 [.int .i64 0,.string ⟨#[]⟩,.string ⟨#[]⟩,.bool false,.int .i64 0],.reg 8 [.int .i64 0,.string ⟨#[]⟩,.string ⟨#[]⟩,.bool false,.int .i64 0]],[]⟩) ?_ ?_
 ·intros;refine dT ?_;refine zK _ KJ (by decide) ?_;refine sJ c219r20.eq_1 ?_;refine hA.y_l1 hy rfl rfl ?_;rintro a1 ha1 u hu;cases hu;refine sJ @hq3 ?_;refine⟨?_,?_⟩
  ·refine fK (hb1 _ _) ?_;refine⟨?_,?_⟩
   ·refine fK (hb2 _ _) ?_;intro bk hbk;refine⟨ef KO (.cons _ KJ),?_⟩;refine sI ?_;refine ek [] [_,_] rfl (by simp) ⟨rfl,rfl⟩ ?_;refine sI ?_;refine⟨ef KO (.cons _ KJ),?_⟩;refine sI ?_;exact eF ⟨bk,eE,eE,rfl⟩
   ·intro bk hbk;refine⟨ef KO (.cons _ KJ),?_⟩;refine sI ?_;refine fK (hb2 _ _) ?_;refine⟨ef KO (.cons _ KJ),?_⟩;refine sI ?_;refine ek [] [_,_] rfl (by simp) ⟨rfl,rfl⟩ ?_;refine sI ?_;refine⟨ef KO (.cons _ KJ),?_⟩;refine sI ?_;exact eF ⟨bk,eE,eE,rfl⟩
  ·intro bk hbk;refine⟨ef KO (.cons _ KJ),?_⟩;refine sI ?_;refine fK (hb1 _ _) ?_;refine⟨ef KO (.cons _ KJ),?_⟩;refine sI ?_;refine fK (hb2 _ _) ?_;refine⟨ef KO (.cons _ KJ),?_⟩;refine sI ?_;refine ek [] [_,_] rfl (by simp) ⟨rfl,rfl⟩ ?_;refine sI ?_;refine⟨ef KO (.cons _ KJ),?_⟩;refine sI ?_;exact eF ⟨bk,eE,eE,rfl⟩
 rintro e h ⟨bk,e24,e22,rfl⟩;refine dV [22,24] ?_;refine sJ2 @e22 @e24 ?_;intros;refine gR 115 117 c219r21.eq_1 ?_;refine⟨_,vG (.head _) rfl,?_⟩;refine sI ?_;refine fK (hckR G _ _) ?_;intros;refine gC ?_;refine gb (fun k7=>?_) (fun k7=>?_)
 ·have k7:=KM k7;intros;refine gR 118 119 c219r22.eq_1 ?_;intros;refine rW ?_;rcases hchk with h | ⟨_,h⟩
  ·rw[← h,if_neg k7];rfl
  ·rw[h];rfl
 have k7:kb ⟨q0,q1,q2,q3,q4⟩=0:=by simpa using k7
 intros;refine gN ?_;intros;refine gR 119 121 c219r23.eq_1 ?_;refine⟨_,vG (.head _) rfl,?_⟩;refine sI ?_;intros;refine rW ?_;rcases hchk with h | ⟨h,_⟩
 ·rw[← h,if_pos k7];rfl
 ·rw[h]at k7;cases k7
theorem F197:Fun Tryz.prog 197 33 v197 c197 o197:=Fun.mkA Tryz.func197 Tryz.ntmps197
theorem F208:Fun Tryz.prog 208 37 v208 c208 o208:=Fun.mkA Tryz.func208 Tryz.ntmps208
theorem qL(n k:Nat):kj n (k+1)=kj (n / 256) k++[UInt8.ofNat n]:=by
 unfold kj;rw[List.range_succ,List.map_append];congr 1
 ·apply List.map_congr_left;intro i hi;have hi:=List.mem_range.1 hi;congr 1;rw[Nat.div_div_eq_div_mul,show k+1 - 1 - i=(k - 1 - i)+1 by omega,Nat.pow_succ,Nat.mul_comm]
 ·simp
theorem ra(l:KD)(x:UInt8):la (l++[x])=la l * 256+x.toNat:=by simp[la]
theorem nH:∀ (k:Nat) (l:KD),l.length=k→kj (la l) k=l
 | 0,l,h=>by
  have:l=[]:=List.eq_nil_of_length_eq_zero h;subst this;rfl
 | k+1,l,h=>by
  obtain⟨m,x,rfl⟩:∃ m x,l=m++[x]:=by
   have hne:l≠[]:=by intro h0;rw[h0]at h;cases h
   exact⟨l.dropLast,l.getLast hne,(List.dropLast_concat_getLast hne).symm⟩
  have hx:=x.toNat_lt;have hl:m.length=k:=by simpa using h
  rw[qL,ra,show(la m * 256+x.toNat) / 256=la m by omega,nH k m hl];congr 1;have:UInt8.ofNat (la m * 256+x.toNat)=x:=by
   apply UInt8.toNat_inj.1;simp
  rw[this]
theorem nv:∀ (k n:Nat),n < 256 ^ k→la (kj n k)=n
 | 0,n,h=>by
  have:n=0:=by simpa using h
  subst this;rfl
 | k+1,n,h=>by
  rw[Nat.pow_succ]at h;rw[qL,ra,nv k (n / 256) (by omega)];simp;try omega
def ii(l:KD):KD × Int:=if l.length < 4 then([],10)else if l.drop (l.length - 4)=kj (zU (l.take (l.length - 4))).toNat 4 then(l.take (l.length - 4),0)else([],20)
theorem yT{a:W32}{m:KD}(hm:m.length=4):la m=a.toNat↔m=kj a.toNat 4:=by
 constructor
 ·intro h;rw[← h,nH 4 m hm]
 ·intro h;rw[h,nv 4 _ (by have:=a.isLt;omega)]
theorem DO(l:KD)(v:Value)(G:Ks)(hl:SB G v l)(hb:l.length≤1000000):FnO Tryz.prog 197 #[v] G [] (fun _ L' r=>yR (ii l) L' r):=by
 obtain⟨A,c,rfl,hc,hm,hA⟩:=id hl;refine F197.fnO (by simp) dS (dY ?_);unfold c197;have w1:IntKind.i64.wrap ((l.length:Int) - 4)=(l.length:Int) - 4:=by rw[ei] <;> omega
 intros;refine gR 0 0 c197r0.eq_1 ?_;intros;refine gR2 7 10 c197r1.eq_1 @w1 ?_;intros;refine gR 10 11 c197r2.eq_1 ?_;intros;refine gC ?_;refine gbD (fun h1=>?_) (fun h1=>?_)
 ·intros;refine gR 0 0 c197r3.eq_1 ?_;intros;refine dT ?_;refine dU (eA none 5 1) ?_;refine ea (ee _ rfl KJ (dW dS) ?_);rw[ii,if_pos (by omega)];exact⟨_,rfl,[],.nil,rfl⟩
 obtain⟨k,hk⟩:∃ k,l.length=k+4:=⟨l.length - 4,by omega⟩;have hn:((l.length:Int) - 4)=(k:Int):=by omega
 obtain⟨w,hw⟩:∃ w,w=zU (l.take k):=⟨_,rfl⟩;have hop:ii l=if l.drop k=kj w.toNat 4 then(l.take k,0)else([],20):=by rw[ii,if_neg (by omega),show l.length - 4=k by omega,← hw]
 have hd:(l.drop k).length=4:=by simp;omega
 have hng:=xQ l k 4 (by omega) _ G hl;rw[jO,if_neg (by omega),List.take_of_length_le (by omega)]at hng;have hinj:=yT (a:=w) hd;have hpre:=SlV.pre k hl (by omega);have hsum:=BQ (l.take k) _ G hpre;rw[← hw]at hsum;unfold vW at hsum;obtain⟨x,hx⟩:∃ x,x=la (l.drop k):=⟨_,rfl⟩;rw[← hx]at hng hinj;dsimp only at hng;rw[hn]
 have hbad:¬ l.drop k=kj w.toNat 4→∀ (fr:KA) (e:Env) (G':Ks),go none Tryz.prog 33 v197.1 v197.2 (fI o197 fun v h=>yR (ii l) h.L v) (Td.s ((SC.reg false c197r6).seq .ret) :: fr) e ⟨G',[],[]⟩:=fun hx fr e G'=>by
  intros;refine gR 0 0 c197r6.eq_1 ?_;intros;refine dT ?_;refine dU (eA none 5 1) ?_;refine ea (ee _ rfl KJ (dW dS) ?_);rw[hop,if_neg hx];exact⟨_,rfl,[],.nil,rfl⟩
 intros;refine gN ?_;intros;refine gR 12 18 c197r4.eq_1 ?_;refine fK (hng _ _) ?_;intros;refine gR 18 28 c197r5.eq_1 ?_;refine gd (fun h=>by simp at h) (fun _=>?_);refine sI ?_;refine⟨by omega,?_⟩;refine(hsum _ _).mono ?_;rintro r h' ⟨G1,rfl,hg1,rfl⟩;refine sJ @Gj ?_;intros;refine gC ?_;refine gb (fun h2=>?_) (fun h2=>?_)
 ·have h2:=KM h2;exact hbad (fun h=>h2 (by rw[hinj.2 h])) _ _ _
 have h2:l.drop k=kj w.toNat 4:=hinj.1 (by have:=KN h2;omega);clear hbad;intros;refine gN ?_;intros;refine gR 29 33 c197r7.eq_1 ?_;refine⟨by omega,?_⟩;refine j5 (.inr ⟨⟨none,rfl⟩,rfl,rfl,rfl,rfl⟩) (SB.le hpre hg1) rfl UE1 (by simp;unfold maxLen;omega) fun ys A c hc=>?_
 simp only[Nat.zero_add,List.nil_append];refine sI ?_;intros;refine dT ?_;refine ea (ee _ rfl KJ (dW dS) ?_);rw[hop,if_pos h2];exact⟨_,rfl,ys,hc,rfl⟩
theorem AO(l:KD)(v:Value)(G:Ks)(hl:SB G v l)(hb:l.length≤1000000):FnO Tryz.prog 208 #[v] G [] (fun _ L' r=>yR (ii l) L' r):=by
 obtain⟨A,c,rfl,hc,hm,hA⟩:=id hl;refine F208.fnO (by simp) dS (dY ?_);unfold c208;have w1:IntKind.i64.wrap ((l.length:Int) - 4)=(l.length:Int) - 4:=by rw[ei] <;> omega
 intros;refine gR 0 0 c208r0.eq_1 ?_;intros;refine gR2 7 10 c208r1.eq_1 @w1 ?_;intros;refine gR 10 11 c208r2.eq_1 ?_;intros;refine gC ?_;refine gbD (fun h1=>?_) (fun h1=>?_)
 ·intros;refine gR 0 0 c208r3.eq_1 ?_;intros;refine dT ?_;refine dU (eA none 5 1) ?_;refine ea (ee _ rfl KJ (dW dS) ?_);rw[ii,if_pos (by omega)];exact⟨_,rfl,[],.nil,rfl⟩
 obtain⟨k,hk⟩:∃ k,l.length=k+4:=⟨l.length - 4,by omega⟩;have hn:((l.length:Int) - 4)=(k:Int):=by omega
 obtain⟨w,hw⟩:∃ w,w=zU (l.take k):=⟨_,rfl⟩;have hop:ii l=if l.drop k=kj w.toNat 4 then(l.take k,0)else([],20):=by rw[ii,if_neg (by omega),show l.length - 4=k by omega,← hw]
 have hd:(l.drop k).length=4:=by simp;omega
 have hpre:=SlV.pre k hl (by omega);have hsum:=ym (l.take k) _ G hpre;rw[← hw]at hsum;have hp4:=fW w.toNat 4;rw[hn];intros;refine gN ?_;intros;refine gR 12 17 c208r4.eq_1 ?_;refine⟨by omega,?_⟩;refine fK (hsum _ _) ?_;refine(wi (by decide) (xB w G) _ []).mono ?_;rintro r h' ⟨G1,rfl,hg1,B,d,rfl,hd1,hd2,hB⟩;generalize hq:kj w.toNat 4=q at hB hop hp4;have hA1:=hA.le hg1 (E':=UE) KO;refine sI ?_
 intros;refine gR 0 0 c208r5.eq_1 ?_;intros;refine dT ?_;refine ej (fun e h=>∃ i:Nat,(i≤4∧(l.drop k).take i=q.take i)∧e 6=.int .i64 i∧e 4=.int .i64 k∧e 0=.slice A l.length c∧e 5=.slice B q.length d∧h=⟨G1,[],[]⟩) (fun e h=>4 - iv (e 6)) ?_ ?_
 ·exact⟨0,⟨Nat.zero_le _,rfl⟩,eE,eE,eE,eE,rfl⟩
 ·rintro e h ⟨i,⟨hi,htk⟩,e6,e4,e0,e5,rfl⟩;refine dV [0,4,5,6] ?_;refine sJ4 @e0 @e4 @e5 @e6 ?_;intros;refine gR 17 18 c208r6.eq_1 ?_;intros;refine gC ?_;refine gb (fun h2=>?_) (fun h2=>?_)
  ·have hi4:i < 4:=by have:=KM h2;omega
   have hw3:=eW i 4 hi4 (by unfold maxLen;omega);have w2:IntKind.i64.wrap ((k:Int)+i)=((k+i:Nat):Int):=by rw[ei] <;> omega
   obtain⟨x,hx⟩:∃ x,(l.drop k)[i]?=some x:=⟨(l.drop k)[i]'(by omega),getElem?_eq_getElem _⟩;obtain⟨y,hy⟩:∃ y,q[i]?=some y:=⟨q[i]'(by omega),getElem?_eq_getElem _⟩;have hx':l[k+i]?=some x:=by rw[← List.getElem?_drop];exact hx
   intros;refine gN ?_;intros;refine dT ?_;refine qB 21 31 (by decide) ?_;refine sJ2 c208r7.eq_1 @w2 ?_;refine hA1.y_l1 hx' (by omega) rfl ?_;rintro a1 ha1 u hu;cases hu;refine sI ?_;refine hB.y_l1 hy rfl rfl ?_;rintro a2 ha2 u hu;cases hu;refine sI ?_;intros;refine gC ?_;refine gb (fun h3=>?_) (fun h3=>?_)
   ·have h3:=KM h3;intros;refine gR 0 0 c208r8.eq_1 ?_;intros;refine dT ?_;refine dU (eA none 5 1) ?_;refine ea (ee _ rfl KJ (dW dS) ?_);rw[hop,if_neg fun h=>h3 (by rw[h,hy]at hx;cases hx;rfl)];exact⟨_,rfl,[],.nil,rfl⟩
   ·have h3:x=y:=by have:=KN h3;apply UInt8.toNat_inj.1;omega
    intros;refine gN ?_;intros;refine gR2 19 21 c208r9.eq_1 @hw3 ?_;intros;refine dT ?_;refine eF ⟨⟨i+1,⟨by omega,kB htk hx hy h3⟩,eE,eE,eE,eE,rfl⟩,?_⟩;refine sI ?_;omega
  ·have hi4:i=4:=by have:=KN h2;omega
   subst hi4;rw[List.take_of_length_le (by omega),List.take_of_length_le (by omega)]at htk;refine eg ?_;refine sI ?_;intros;refine gR 32 37 c208r10.eq_1 ?_;intro bk hbk;refine⟨by omega,?_⟩;refine j5 (.inr ⟨⟨_,rfl⟩,rfl,rfl,rfl,rfl⟩) (SB.le hpre hg1) rfl UE1 (by simp;unfold maxLen;omega) fun ys A c hc=>?_
   simp only[Nat.zero_add,List.nil_append];refine sI ?_;intros;refine dT ?_;refine ea (ee _ rfl KJ (dW dS) ?_);rw[hop,if_pos htk];exact⟨_,rfl,ys,hc,rfl⟩
theorem F212:Fun Tryz.prog 212 18 v212 c212 o212:=Fun.mkA Tryz.func212 Tryz.ntmps212
theorem F198:Fun Tryz.prog 198 155 v198 c198 o198:=Fun.mkA Tryz.func198 Tryz.ntmps198
def mT(l:KD):Nat→Option (KG × Nat)
 | 0=>some ([],0)
 | k+1=>(mT l k).bind fun r=>if (fH l r.2).2.2=0 then some (r.1++[(fH l r.2).1],(fH l r.2).2.1.toNat)else none
def gQ(l:KD)(base stamp:Int)(p:Nat):Nat→Option (List Rec × Nat)
 | 0=>some ([],p)
 | k+1=>(gQ l base stamp p k).bind fun r=>if (getR l r.2 base stamp).2.2=0 then some (r.1++[(getR l r.2 base stamp).1],(getR l r.2 base stamp).2.1.toNat)else none
def wH(rs:List Rec)(stamp:Int):Bool:=match rs with
 | []=>true
 | r :: _=>decide (r.stamp=stamp)
def mkB(ns:KG)(m:UInt8)(rs:List Rec):Batch:=⟨ns.getD 0 0,ns.getD 0 0+ns.getD 1 0,ns.getD 2 0,ns.getD 3 0,ns.getD 4 0,ns.getD 5 0,ns.getD 6 0,decide (4≤m.toNat),((m.toNat % 4:Nat):Int),rs⟩
def lh(l:KD)(ns:KG)(m:UInt8)(many:Nat)(s:Int × Int × Int):Option Batch :=
 if s.2.2=0 then(gQ l (ns.getD 0 0) s.1 s.2.1.toNat many).bind fun r=>if r.2=l.length∧wH r.1 s.1=true then some (mkB ns m r.1)else none else none
def kp(l:KD)(ns:KG)(m:UInt8)(v:Int × Int × Int):Option Batch :=
 if v.2.2=0∧0≤v.1∧v.1≤16 then lh l ns m v.1.toNat (if 0 < v.1 then fH l v.2.1 else(0,v.2.1,0))else none
def kt(w:Int)(l:KD)(q:KG × Nat):Option Batch :=
 (l[q.2]?).bind fun m=>if m.toNat < 8∧(0≤q.1.getD 0 0∧q.1.getD 0 0≤1099511627776)∧(0≤q.1.getD 1 0∧q.1.getD 1 0≤w)then kp l q.1 m (fH l ((q.2:Int)+1))else none
def eX(w:Int)(l:KD):Option Batch:=(mT l 7).bind (kt w l)
theorem nG{l:KD}:∀ (j k:Nat),mT l k=none→mT l (k+j)=none
 | 0,_,h=>h
 | j+1,k,h=>by rw[← Nat.add_assoc,mT,nG j k h];rfl
theorem mp{l:KD}{base stamp:Int}{p:Nat}:∀ (j k:Nat),gQ l base stamp p k=none→gQ l base stamp p (k+j)=none
 | 0,_,h=>h
 | j+1,k,h=>by rw[← Nat.add_assoc,gQ,mp j k h];rfl
theorem wT{l:KD}{base stamp:Int}{p many:Nat}{q:List Rec × Nat}(h:gQ l base stamp p many=some q):∀ k,k≤many→∃ q2,gQ l base stamp p k=some q2∧∃ t,q.1=q2.1++t:=by
 induction many generalizing q with
 | zero =>
  intro k hk;have:k=0:=by omega
  subst this;exact⟨q,h,[],by simp⟩
 | succ n ih =>
  intro k hk;by_cases hkn:k=n+1
  ·subst hkn;exact⟨q,h,[],by simp⟩
  ·rw[gQ]at h;cases hn:gQ l base stamp p n with
   | none=>rw[hn]at h;cases h
   | some q1 =>
    rw[hn]at h;simp only[Option.bind_some]at h;split at h
    ·cases h;obtain⟨q2,h2,t,ht⟩:=ih hn k (by omega);exact⟨q2,h2,t++[_],by dsimp only;rw[ht,List.append_assoc]⟩
    ·cases h
theorem nO(l:KD)(a:Int)(ok:Bool)(b1 b3 b4:Nat)(v:Value)(G:Ks)(hl:SB G v l)(h1:fB G ⟨b1,0,none⟩=some v):
  FnO Tryz.prog 212 #[.pointer (some ⟨b1,0,none⟩),.pointer (some ⟨b4,0,none⟩),.pointer (some ⟨b3,0,none⟩)] G [.blk b4 [.int .i64 a],.blk b3 [.bool ok]]
   (fun G' L' r=>G=G'∧r=.int .i64 (if (fH l a).2.2=0 then(fH l a).1 else 0)∧L'=[.blk b4 [.int .i64 (if (fH l a).2.2=0 then(fH l a).2.1 else a)],.blk b3 [.bool (if (fH l a).2.2=0 then ok else false)]]):=by
 refine F212.fnO (by simp) (ec (ec dS)) (dY ?_);unfold c212;have hgv:=l5 l a v G hl;intros;refine gR 0 0 c212r0.eq_1 ?_;intros;refine gR 7 14 c212r1.eq_1 ?_;refine⟨_,⟨_,rfl,.g h1⟩,?_⟩;refine sI ?_;refine⟨_,dZ (.head _) rfl,?_⟩;refine fK (hgv _ _) ?_;intros;refine gR 14 15 c212r2.eq_1 ?_;intros;refine gC ?_;refine gb (fun k1=>?_) (fun k1=>?_)
 ·have k1:=KM k1;intros;refine gR 0 0 c212r3.eq_1 ?_;refine ek [_] [] rfl (by simp) ⟨rfl,rfl⟩ ?_;refine sI ?_;intros;refine gR 0 0 c212r4.eq_1 ?_;intros;refine dT ?_;refine ea (ee _ rfl KJ (ec (ec dS)) ?_);rw[if_neg k1,if_neg k1,if_neg k1];exact⟨rfl,rfl,rfl⟩
 ·have k1:(fH l a).2.2=0:=by simpa using k1
  intros;refine gN ?_;intros;refine gR 16 17 c212r5.eq_1 ?_;refine ek [] [_] rfl (by simp) ⟨rfl,rfl⟩ ?_;refine sI ?_;intros;refine gR 17 18 c212r6.eq_1 ?_;intros;refine dT ?_;refine ea (ee _ rfl KJ (ec (ec dS)) ?_);rw[if_pos k1,if_pos k1,if_pos k1];exact⟨rfl,rfl,rfl⟩
def pn(ns:KG):Kt:=ns.map fun n=>.int .i64 n
theorem oE{zs:KG}{k:Nat}{x:Int}(hk:k < zs.length):eo (pn zs) k [.int .i64 x]=pn (zs.set k x):=by
 rw[yF _ (by simpa [pn]using hk)];simp[pn]
theorem s9{zs:KG}{k:Nat}{x:Int}(hk:k < zs.length):(zs.set k x).take (k+1)=zs.take k++[x]:=by
 rw[List.take_succ_eq_append_getElem (by simpa using hk),List.take_set_of_le (Nat.le_refl _)];simp
theorem Iy{x:UInt8}(h:x.toNat < 8):fq .and (.int .u8 (x.toNat:Int)) (.int .u8 4)=some (.int .u8 (if 4≤x.toNat then 4 else 0)):=by
 have key:∀ b:Fin 8,(BitVec.ofInt 8 ((b.val:Nat):Int) &&& BitVec.ofInt 8 4).toNat=if 4≤b.val then 4 else 0:=by decide +kernel
 have h2:=key ⟨x.toNat,h⟩;simp only[fq];rw[if_pos trivial];have h3:(BitVec.ofInt IntKind.u8.bits (x.toNat:Int) &&& BitVec.ofInt IntKind.u8.bits 4).toNat=if 4≤x.toNat then 4 else 0:=h2
 rw[h3];split <;> rfl
theorem zI{x:UInt8}(h:x.toNat < 8):fq .andNot (.int .u8 (x.toNat:Int)) (.int .u8 4)=some (.int .u8 ((x.toNat % 4:Nat):Int)):=by
 have key:∀ b:Fin 8,(BitVec.ofInt 8 ((b.val:Nat):Int) &&& ~~~ BitVec.ofInt 8 4).toNat=b.val % 4:=by decide +kernel
 have h2:=key ⟨x.toNat,h⟩;simp only[fq];rw[if_pos trivial];have h3:(BitVec.ofInt IntKind.u8.bits (x.toNat:Int) &&& ~~~ BitVec.ofInt IntKind.u8.bits 4).toNat=x.toNat % 4:=h2;rw[h3,IntKind.wrap_u8];congr 2;omega
def mU(w:Int)(l:KD)(G:Ks)(r:Value):Prop:=∃ x cs ok,r=.tuple #[.agg cs.toArray,.bool ok]∧BE G x cs∧(if ok=true then eX w l=some x else eX w l=none)
theorem BE.zero{G:Ks}:BE G ⟨0,0,0,0,0,0,0,false,0,[]⟩ [.int .i64 0,.int .i64 0,.int .i64 0,.int .i64 0,.int .i64 0,.int .i64 0,.int .i64 0,.bool false,.int .i64 0,.slice none 0 0]:=⟨none,0,rfl,⟨Nat.le_refl _,Nat.zero_le _,fun i x hx=>by simp at hx⟩,by decide,by decide,by decide,by decide,by decide,by decide,by decide,by decide⟩
theorem Gf(l:KD)(a:Int):I64 (if (fH l a).2.2=0 then(fH l a).1 else 0):=by
 split
 ·rename_i h;obtain⟨_,_,_,_,_,h⟩:=jW h;exact h
 ·decide
theorem CR{α:Type}{E:α→Kt→Prop}{P:Program}{h:H}{d sz et nb:Nat}{l:Ku}{e:Env}{K:KH}{u:Value}{b:Nat}{zs:List α}{zc cs:Kt}{L1 L2:Kv}{x:α}(hL:h.L=.row (.slice (some ⟨b,0,none⟩) 1 1) et sz 1 cs :: L1++.row u et sz zs.length zc :: L2)
  (hE:E x cs) (hl:cs.length=sz) (h1:∀ u∈cs,u.oneCell'=true) (hc:Cells E sz zs zc) (hz:(zs.length+1) * nb≤140737488355328∧zs.length+1≤maxLen)
  (hk:∀ A' c' zc',Cells E sz (zs++[x]) zc'→kR P l d e K (.slice A' (zs++[x]).length c') ⟨h.G,.row (.slice (some ⟨b,0,none⟩) 1 1) et sz 1 cs :: L1++.row (.slice A' (zs++[x]).length c') et sz (zs++[x]).length zc' :: L2,h.D⟩) :
  apX P u (.slice (some ⟨b,0,none⟩) 1 1) et sz nb d l e h K:=by
 refine⟨.row (.slice (some ⟨b,0,none⟩) 1 1) et sz 1 cs :: L1,zs.length,zc,L2,1,cs,.inl hL,kO (h:=h) (by rw[hL];exact .head _) h1 (by rw[hl,Nat.one_mul]),hz,fun A' c'=>?_⟩;have:=hk A' c' (zc++cs) (hc.app (.one hE hl));simp only[length_append,List.length_cons,List.length_nil,Nat.zero_add]at this;exact this
theorem xj{α:Type}{E:α→Kt→Prop}{P:Program}{h:H}{d sz et nb:Nat}{l:Ku}{e:Env}{K:KH}{u:Value}{b:Nat}{zs:List α}{zc cs:Kt}{L1 L2:Kv}{x:α}(hL:h.L=.row (.slice (some ⟨b,0,none⟩) 1 1) et sz 1 cs :: L1++.row u et sz zs.length zc :: L2)
  (hE:E x cs) (hl:cs.length=sz) (h1:∀ u∈cs,u.oneCell'=true) (hc:Cells E sz zs zc) (hz:zs.length≤1000000) (hnb:nb≤1000)
  (hk:∀ A' c' zc',Cells E sz (zs++[x]) zc'→kR P l d e K (.slice A' (zs++[x]).length c') ⟨h.G,.row (.slice (some ⟨b,0,none⟩) 1 1) et sz 1 cs :: L1++.row (.slice A' (zs++[x]).length c') et sz (zs++[x]).length zc' :: L2,h.D⟩) :
  apX P u (.slice (some ⟨b,0,none⟩) 1 1) et sz nb d l e h K :=
 CR hL hE hl h1 hc ⟨by
  have:(zs.length+1) * nb≤1000001 * 1000:=Nat.mul_le_mul (by omega) hnb
  omega,by unfold maxLen;omega⟩ hk
theorem xe(l:KD)(a base stamp:Int):RR (getR l a base stamp).1 (gT (getR l a base stamp).1):=by
 have hz:RR kX (gT kX):=⟨rfl,⟨by decide,by decide⟩,by decide,by decide⟩;unfold getR;split
 ·split
  ·split
   ·rename_i h;obtain⟨⟨h1,h2⟩,h3,h4⟩:=fQ h;simp[inO]at h1 h2;refine⟨rfl,⟨?_,?_⟩,?_,?_⟩
    ·dsimp only;unfold I64;omega
    ·dsimp only;unfold I64;omega
    ·dsimp only;unfold maxLen;omega
    ·dsimp only;unfold maxLen;omega
   ·exact hz
  ·exact hz
 ·exact hz
theorem Dq(l:KD)(a most:Int):0≤(kK l a most).2.1:=by
 have:=ku l a;unfold kK;split
 ·split
  ·simp
  ·split
   ·simp
   ·split
    ·simp
    ·dsimp only;omega
 ·simp
theorem xT(l:KD)(a base stamp:Int):0≤(getR l a base stamp).2.1:=by
 unfold getR;split
 ·split
  ·rename_i h5;split
   ·dsimp only;unfold g5 nx at h5 ⊢;split
    ·exact Dq _ _ _
    ·rename_i h4;rw[if_neg h4]at h5;exact absurd h5 h4
   ·simp
  ·simp
 ·simp
set_option maxHeartbeats 2000000 in
theorem Aw(l:KD)(v:Value)(G:Ks)(hl:SB G v l)(hb:l.length≤1000000):FnD Tryz.prog 198 #[v] G (mU 15 l):=by
 refine F198.fnD (by simp) (dY ?_);have hl00:=hl;obtain⟨A,c,rfl,hc,hm,hA⟩:=hl;unfold c198;intros;refine gR 0 0 c198r0.eq_1 ?_;intro b1 hb1;refine sI ?_;intro b3 hb3;refine sI ?_;intros;refine gR 0 0 c198r1.eq_1 ?_;intro b4 hb4;refine sI ?_;refine ek [] [_,_,_] rfl (by simp) ⟨rfl,rfl⟩ ?_;refine sI ?_;intros;refine gR 0 0 c198r2.eq_1 ?_;refine ek [_] [_,_] rfl (by simp) ⟨rfl,rfl⟩ ?_;refine sI ?_
 intros;refine gR 15 16 c198r3.eq_1 ?_;intros;refine gR 0 0 c198r4.eq_1 ?_;intro b6 hb6;refine sI ?_;intros;refine gR 0 0 c198r5.eq_1 ?_;intros;refine gN ?_;refine eI (eP [_,_,_,_] []) ?_;rintro h' ⟨G1,rfl,hg1,hcell⟩;have h1:fB G1 ⟨b1,0,none⟩=some (.slice A l.length c):=by have:=hcell 0 _ rfl;rwa [gB]at this
 clear hcell;have hl1:=SB.le hl00 hg1;refine dU (eO (L':=[.blk b4 [.int .i64 0],.blk b3 [.bool true],.blk b6 (pn [0,0,0,0,0,0,0]),.reg 2 [.int .i64 0,.int .i64 0,.int .i64 0,.int .i64 0,.int .i64 0,.int .i64 0,.int .i64 0,.bool false,.int .i64 0,.slice none 0 0]]) ((List.Perm.swap _ _ _).trans (List.Perm.cons _ (List.Perm.swap _ _ _)))) ?_;have hrest:∀ (e:Env),True:=fun _=>trivial
 refine eL (fun e h=>∃ (ns:KG) (a:Int) (ok:Bool),(ns.length=7∧(∀ z∈ns,I64 z)∧((ok=true∧0≤a∧mT l 7=some (ns,a.toNat))∨(ok=false∧mT l 7=none))) ∧
  (e 1=.pointer (some ⟨b1,0,none⟩)∧e 3=.pointer (some ⟨b3,0,none⟩)∧e 4=.pointer (some ⟨b4,0,none⟩)∧e 6=.pointer (some ⟨b6,0,none⟩)∧e 5=.func (.func 212) #[] #[.pointer (some ⟨b1,0,none⟩),.pointer (some ⟨b4,0,none⟩),.pointer (some ⟨b3,0,none⟩)]) ∧
  h=⟨G1,[.blk b4 [.int .i64 a],.blk b3 [.bool ok],.blk b6 (pn ns),.reg 2 [.int .i64 0,.int .i64 0,.int .i64 0,.int .i64 0,.int .i64 0,.int .i64 0,.int .i64 0,.bool false,.int .i64 0,.slice none 0 0]],[]⟩) ?_ ?_
 ·intros;refine dT ?_;refine ej (fun e h=>∃ (k:Nat) (zs:KG) (a:Int) (ok:Bool),(k≤7∧zs.length=7∧(∀ z∈zs,I64 z)∧((ok=true∧0≤a∧mT l k=some (zs.take k,a.toNat))∨(ok=false∧mT l 7=none)))∧e 16=.int .i64 k ∧
   e 1=.pointer (some ⟨b1,0,none⟩)∧e 3=.pointer (some ⟨b3,0,none⟩)∧e 4=.pointer (some ⟨b4,0,none⟩)∧e 6=.pointer (some ⟨b6,0,none⟩)∧e 5=.func (.func 212) #[] #[.pointer (some ⟨b1,0,none⟩),.pointer (some ⟨b4,0,none⟩),.pointer (some ⟨b3,0,none⟩)] ∧
   h=⟨G1,[.blk b4 [.int .i64 a],.blk b3 [.bool ok],.blk b6 (pn zs),.reg 2 [.int .i64 0,.int .i64 0,.int .i64 0,.int .i64 0,.int .i64 0,.int .i64 0,.int .i64 0,.bool false,.int .i64 0,.slice none 0 0]],[]⟩) (fun e h=>7 - iv (e 16)) ?_ ?_
  ·exact⟨0,[0,0,0,0,0,0,0],0,true,⟨Nat.zero_le _,rfl,by decide,.inl ⟨rfl,by omega,rfl⟩⟩,eE,eE,eE,eE,eE,eE,rfl⟩
  ·rintro e h ⟨k,zs,a,ok,⟨hk,hzl,hzi,hst⟩,e16,e1,e3,e4,e6,e5,rfl⟩;refine dV [1,3,4,5,6,16] ?_;refine sJ6 @e1 @e3 @e4 @e5 @e6 @e16 ?_;intros;refine gR 0 0 c198r6.eq_1 ?_;intros;refine gC ?_;refine gb (fun ht=>?_) (fun ht=>?_)
   ·have hk7:k < 7:=by have:=KM ht;omega
    have hw:=eW k 7 hk7 (by unfold maxLen;omega);have hi:=Gf l a;intros;refine gN ?_;intros;refine gR 18 19 c198r7.eq_1 ?_;intros;refine gR 19 23 c198r8.eq_1 ?_;refine .inl ⟨_,_,rfl,?_⟩;refine(nO l a ok b1 b3 b4 _ G1 hl1 h1 _ []).mono ?_;rintro r h' ⟨G',L',rfl,-,rfl,rfl,rfl⟩;refine sI ?_;refine⟨by omega,?_⟩;rw[show 0+k * 1=k by omega];refine ek [_,_] [_] rfl (by simp[pn];omega) ⟨rfl,rfl⟩ ?_
    simp only[List.cons_append,List.nil_append];rw[oE (by omega)];refine sI ?_;intros;refine gR2 23 24 c198r9.eq_1 @hw ?_;intros;refine dT ?_;refine eF ⟨⟨k+1,zs.set k (if (fH l a).2.2=0 then(fH l a).1 else 0),(if (fH l a).2.2=0 then(fH l a).2.1 else a),(if (fH l a).2.2=0 then ok else false),⟨by omega,by simp[hzl],fun z hz=>?_,?_⟩,eE,eE,eE,eE,eE,eE,rfl⟩,?_⟩
    ·rcases List.mem_or_eq_of_mem_set hz with h | h
     ·exact hzi z h
     ·rw[h];exact hi
    ·rcases hst with⟨h1,h2,h3⟩ | ⟨h1,h2⟩
     ·by_cases hv:(fH l a).2.2=0
      ·rw[if_pos hv,if_pos hv,if_pos hv];refine .inl ⟨h1,ku l a,?_⟩;rw[mT,h3,s9 (by omega)];simp only[Option.bind_some];rw[Int.toNat_of_nonneg h2,if_pos hv]
      ·rw[if_neg hv,if_neg hv,if_neg hv];refine .inr ⟨rfl,?_⟩;have:mT l (k+1)=none:=by
        rw[mT,h3];simp only[Option.bind_some];rw[Int.toNat_of_nonneg h2,if_neg hv]
       have:=nG (7 - (k+1)) (k+1) this
       rwa [show k+1+(7 - (k+1))=7 by omega]at this
     ·refine .inr ⟨?_,h2⟩;rw[h1];split <;> rfl
    ·refine sI ?_;omega
   ·have hk7:k=7:=by have:=KN ht;omega
    subst hk7;rw[List.take_of_length_le (by omega)]at hst;refine eg ?_;refine sI ?_;exact eF ⟨zs,a,ok,⟨hzl,hzi,hst⟩,⟨eE,eE,eE,eE,eE⟩,rfl⟩
 rintro e h ⟨ns,a,ok,⟨hnl,hni,hst⟩,⟨e1,e3,e4,e6,e5⟩,rfl⟩;refine dV [1,3,4,5,6] ?_;refine sJ5 @e1 @e3 @e4 @e5 @e6 ?_
 have hbad:∀ (fr:KA) (e:Env) (a:Int) (ok:Bool),eX 15 l=none→e 3=.pointer (some ⟨b3,0,none⟩)→go none Tryz.prog 155 v198.1 v198.2 (fI o198 fun v h=>mU 15 l h.G v) (Td.s ((SC.reg false c198r11).seq .ret) :: fr) e ⟨G1,[.blk b4 [.int .i64 a],.blk b3 [.bool ok],.blk b6 (pn ns),.reg 2 [.int .i64 0,.int .i64 0,.int .i64 0,.int .i64 0,.int .i64 0,.int .i64 0,.int .i64 0,.bool false,.int .i64 0,.slice none 0 0]],[]⟩:=fun fr e a ok hx e3=>by
  refine dV [3] ?_;refine sJ @e3 ?_;intros;refine gR 59 60 c198r11.eq_1 ?_;refine ek [_] [_,_] rfl (by simp) ⟨rfl,rfl⟩ ?_;refine sI ?_;intros;refine dT ?_;refine dU (dX (L':=[.blk b3 [.bool false],.reg 2 [.int .i64 0,.int .i64 0,.int .i64 0,.int .i64 0,.int .i64 0,.int .i64 0,.int .i64 0,.bool false,.int .i64 0,.slice none 0 0]]) (.cons _ (.cons_cons _ (.cons _ KJ)))) ?_
  refine ea (kd (out:=[.agg #[.int .i64 0,.int .i64 0,.int .i64 0,.int .i64 0,.int .i64 0,.int .i64 0,.int .i64 0,.bool false,.int .i64 0,.slice none 0 0],.bool false]) ?_ ?_)
  ·simp[o198,mR,Kx.getR,getB,vg,ldC,Env.set]
  ·refine⟨_,_,false,rfl,BE.zero,?_⟩;exact hx
 obtain⟨n0,n1,n2,n3,n4,n5,n6,rfl⟩:∃ n0 n1 n2 n3 n4 n5 n6:Int,ns=[n0,n1,n2,n3,n4,n5,n6]:=by
  match ns,hnl with
  | [n0,n1,n2,n3,n4,n5,n6],_=>exact⟨n0,n1,n2,n3,n4,n5,n6,rfl⟩
 have m3:∀ {x y z u:Kx.Item} {L:Kv},z∈x :: y :: z :: u :: L:=.tail _ (.tail _ (.head _));have m2:∀ {x y z u:Kx.Item} {L:Kv},y∈x :: y :: z :: u :: L:=.tail _ (.head _);have hA1:=hA.le hg1 (E':=UE) KO;unfold maxLen at hm;intros;try refine ed ?_
 refine eL (fun e h=>∃ (p:Nat) (m:UInt8),(mT l 7=some ([n0,n1,n2,n3,n4,n5,n6],p)∧l[p]?=some m∧m.toNat < 8∧(0≤n0∧n0≤1099511627776)∧0≤n1∧n1≤15) ∧
  (e 1=.pointer (some ⟨b1,0,none⟩)∧e 3=.pointer (some ⟨b3,0,none⟩)∧e 4=.pointer (some ⟨b4,0,none⟩)∧e 6=.pointer (some ⟨b6,0,none⟩)∧e 5=.func (.func 212) #[] #[.pointer (some ⟨b1,0,none⟩),.pointer (some ⟨b4,0,none⟩),.pointer (some ⟨b3,0,none⟩)]) ∧
  h=⟨G1,[.blk b4 [.int .i64 (p:Int)],.blk b3 [.bool true],.blk b6 (pn [n0,n1,n2,n3,n4,n5,n6]),.reg 2 [.int .i64 0,.int .i64 0,.int .i64 0,.int .i64 0,.int .i64 0,.int .i64 0,.int .i64 0,.bool false,.int .i64 0,.slice none 0 0]],[]⟩) ?_ ?_
 ·intros;refine gR 24 58 c198r10.eq_1 ?_;refine⟨_,dZ m2 rfl,?_⟩;refine sI ?_;refine gd (fun k0=>?_) (fun k0=>?_)
  ·have k0:ok=false:=by simpa using k0
   refine sI ?_;intros;refine gC ?_;rcases hst with⟨h,_⟩ | ⟨_,h⟩
   ·rw[h]at k0;cases k0
   ·refine hbad _ _ _ _ (by rw[eX,h];rfl) (eE)
  have k0:ok=true:=by simpa using k0
  subst k0;rcases hst with⟨-,ha,hnum⟩ | ⟨h,_⟩
  rotate_left
  ·cases h
  obtain⟨p,rfl⟩:∃ p:Nat,a=p:=⟨a.toNat,by omega⟩;rw[Int.toNat_natCast]at hnum;have hb2:kt 15 l ([n0,n1,n2,n3,n4,n5,n6],p)=none→eX 15 l=none:=fun h=>by rw[eX,hnum];exact h
  refine sI ?_;refine⟨_,dZ (.head _) rfl,?_⟩;refine sI ?_;refine⟨_,⟨_,rfl,.g h1⟩,?_⟩;refine sI ?_;refine gdD (fun k1=>?_) (fun k1=>?_)
  ·refine sI ?_;intros;refine gC ?_;refine hbad _ _ _ _ (hb2 ?_) (eE);rw[kt,List.getElem?_eq_none (by dsimp only;omega)];rfl
  obtain⟨m,hy⟩:∃ m,l[p]?=some m:=⟨l[p]'(by omega),getElem?_eq_getElem _⟩;have hb3:¬ (m.toNat < 8∧(0≤n0∧n0≤1099511627776)∧(0≤n1∧n1≤15))→eX 15 l=none:=fun h=>hb2 (by
   rw[kt,hy]
   simp only[Option.bind_some]
   exact if_neg h)
  refine sI ?_;refine⟨_,⟨_,rfl,.g h1⟩,?_⟩;refine sI ?_;refine⟨_,dZ (.head _) rfl,?_⟩;refine sI ?_;refine hA1.x_l1 hy rfl rfl ?_;rintro a1 ha1 u hu;cases hu;refine sI ?_;refine gdD (fun k2=>?_) (fun k2=>?_)
  ·refine sI ?_;intros;refine gC ?_;exact hbad _ _ _ _ (hb3 fun h=>by omega) (eE)
  refine sI ?_;refine⟨by omega,?_⟩;refine⟨_,dZ (o:=0) m3 rfl,?_⟩;refine sI ?_;refine gdD (fun k3=>?_) (fun k3=>?_)
  ·refine sI ?_;intros;refine gC ?_;exact hbad _ _ _ _ (hb3 fun h=>by omega) (eE)
  refine sI ?_;refine⟨by omega,?_⟩;refine⟨_,dZ (o:=0) m3 rfl,?_⟩;refine sI ?_;refine gdD (fun k4=>?_) (fun k4=>?_)
  ·refine sI ?_;intros;refine gC ?_;exact hbad _ _ _ _ (hb3 fun h=>by omega) (eE)
  refine sI ?_;refine⟨by omega,?_⟩;refine⟨_,dZ (o:=1) m3 rfl,?_⟩;refine sI ?_;refine gdD (fun k5=>?_) (fun k5=>?_)
  ·refine sI ?_;intros;refine gC ?_;exact hbad _ _ _ _ (hb3 fun h=>by omega) (eE)
  refine sI ?_;refine⟨by omega,?_⟩;refine⟨_,dZ (o:=1) m3 rfl,?_⟩;refine sI ?_;intros;refine gC ?_;refine gbD (fun k6=>?_) (fun k6=>?_)
  ·exact hbad _ _ _ _ (hb3 fun h=>by omega) (eE)
  intros;refine dT ?_;exact eF ⟨p,m,⟨hnum,hy,by omega,by omega,by omega,by omega⟩,⟨eE,eE,eE,eE,eE⟩,rfl⟩
 clear hbad hst;rintro e h ⟨p,m,⟨hnum,hy,hm8,hn0,hn1,hn1'⟩,⟨e1,e3,e4,e6,e5⟩,rfl⟩;have hpl:=(List.getElem?_eq_some_iff.1 hy).1;have hb3:eX 15 l=kp l [n0,n1,n2,n3,n4,n5,n6] m (fH l ((p:Int)+1)):=by
  rw[eX,hnum];simp only[Option.bind_some];rw[kt,hy];simp only[Option.bind_some];exact if_pos ⟨hm8,hn0,hn1,hn1'⟩
 refine dV [1,3,4,5,6] ?_;refine sJ5 @e1 @e3 @e4 @e5 @e6 ?_;have wp:=eW p l.length hpl (by unfold maxLen;omega);have wl:IntKind.i64.wrap (n0+n1)=n0+n1:=by rw[ei] <;> omega
 intros;refine gR 60 64 c198r12.eq_1 ?_;refine⟨_,⟨_,rfl,.g h1⟩,?_⟩;refine sI ?_;refine⟨_,dZ (.head _) rfl,?_⟩;refine sI ?_;refine hA1.x_l1 hy rfl rfl ?_;rintro a1 ha1 u hu;cases hu;refine sI ?_;intros;refine gR 64 66 c198r13.eq_1 ?_;refine⟨_,dZ (.head _) rfl,?_⟩;refine sJ @wp ?_;refine ek [] [_,_,_] rfl (by simp) ⟨rfl,rfl⟩ ?_;refine sI ?_;intros;refine gR 66 90 c198r14.eq_1 ?_;refine⟨by omega,?_⟩
 refine⟨_,dZ (o:=0) m3 rfl,?_⟩;refine sI ?_;refine⟨by omega,?_⟩;refine⟨_,dZ (o:=0) m3 rfl,?_⟩;refine sI ?_;refine⟨by omega,?_⟩;refine⟨_,dZ (o:=1) m3 rfl,?_⟩;refine sJ @wl ?_;refine⟨by omega,?_⟩;refine⟨_,dZ (o:=2) m3 rfl,?_⟩;refine sI ?_;refine⟨by omega,?_⟩;refine⟨_,dZ (o:=3) m3 rfl,?_⟩;refine sI ?_;refine⟨by omega,?_⟩;refine⟨_,dZ (o:=4) m3 rfl,?_⟩;refine sI ?_;refine⟨by omega,?_⟩
 refine⟨_,dZ (o:=5) m3 rfl,?_⟩;refine sI ?_;refine⟨by omega,?_⟩;refine⟨_,dZ (o:=6) m3 rfl,?_⟩;have htx:decide ((if 4≤m.toNat then(4:Int)else 0)≠0)=decide (4≤m.toNat):=by split <;> simp_all
 have hct:IntKind.i64.wrap ((m.toNat % 4:Nat):Int)=((m.toNat % 4:Nat):Int):=by rw[ei] <;> omega
 have hmk:∀ rs,mkB [n0,n1,n2,n3,n4,n5,n6] m rs=⟨n0,n0+n1,n2,n3,n4,n5,n6,decide (4≤m.toNat),((m.toNat % 4:Nat):Int),rs⟩:=fun _=>rfl
 have hcti:I64 ((m.toNat % 4:Nat):Int):=by unfold I64;omega
 generalize decide (4≤m.toNat)=tx at htx hmk;have han:=zI hm8;generalize ((m.toNat % 4:Nat):Int)=ct at hct hmk hcti han
 (try simp -implicitDefEqProofs only[mg,mf,push_cast,Nat.reduceBEq,Nat.reduceAdd,Nat.reduceSub,Nat.reduceMul,Nat.reduceLT,Nat.reduceLeDiff,Nat.reduceEqDiff,reduceIte,Bool.not_true,Bool.not_false,true_and,and_true,Option.map_some,Option.bind_some,Int.toNat_natCast,Iy hm8,han,htx,hct])
 have m2':∀ {x y z u:Kx.Item} {L:Kv},y∈x :: y :: z :: u :: L:=.tail _ (.head _);have hi7:I64 n0∧I64 (n0+n1)∧I64 n2∧I64 n3∧I64 n4∧I64 n5∧I64 n6:=⟨hni _ (by simp),by unfold I64;omega,hni _ (by simp),hni _ (by simp),hni _ (by simp),hni _ (by simp),hni _ (by simp)⟩
 -- how many records
 intros;refine gR 90 92 c198r15.eq_1 ?_;refine .inl ⟨_,_,rfl,?_⟩;refine(nO l ((p:Int)+1) true b1 b3 b4 _ G1 hl1 h1 _ []).mono ?_;rintro r h' ⟨G',L',rfl,-,rfl,rfl,rfl⟩;have hvok:=@jW l ((p:Int)+1);generalize fH l ((p:Int)+1)=v at hb3 hvok;refine sI ?_
 have hbad:∀ (fr:KA) (e:Env) (a:Int) (ok:Bool),eX 15 l=none→e 3=.pointer (some ⟨b3,0,none⟩)→go none Tryz.prog 155 v198.1 v198.2 (fI o198 fun v h=>mU 15 l h.G v) (Td.s ((SC.reg false c198r17).seq .ret) :: fr) e ⟨G1,[.blk b4 [.int .i64 a],.blk b3 [.bool ok],.blk b6 (pn [n0,n1,n2,n3,n4,n5,n6]),.reg 2 [.int .i64 n0,.int .i64 (n0+n1),.int .i64 n2,.int .i64 n3,.int .i64 n4,.int .i64 n5,.int .i64 n6,.bool tx,.int .i64 ct,.slice none 0 0]],[]⟩:=fun fr e a ok hx e3=>by
  refine dV [3] ?_;refine sJ @e3 ?_;intros;refine gR 102 103 c198r17.eq_1 ?_;refine ek [_] [_,_] rfl (by simp) ⟨rfl,rfl⟩ ?_;refine sI ?_;intros;refine dT ?_;refine dU (dX (L':=[.blk b3 [.bool false],.reg 2 [.int .i64 0,.int .i64 0,.int .i64 0,.int .i64 0,.int .i64 0,.int .i64 0,.int .i64 0,.bool false,.int .i64 0,.slice none 0 0]]) (.cons _ (.cons_cons _ (.cons _ KJ)))) ?_
  refine ea (kd (out:=[.agg #[.int .i64 0,.int .i64 0,.int .i64 0,.int .i64 0,.int .i64 0,.int .i64 0,.int .i64 0,.bool false,.int .i64 0,.slice none 0 0],.bool false]) ?_ ?_)
  ·simp[o198,mR,Kx.getR,getB,vg,ldC,Env.set]
  ·exact⟨_,_,false,rfl,BE.zero,hx⟩
 intros;try refine ed ?_
 refine eL (fun e h=>(v.2.2=0∧0≤v.1∧v.1≤16)∧(e 1=.pointer (some ⟨b1,0,none⟩)∧e 3=.pointer (some ⟨b3,0,none⟩)∧e 4=.pointer (some ⟨b4,0,none⟩)∧e 5=.func (.func 212) #[] #[.pointer (some ⟨b1,0,none⟩),.pointer (some ⟨b4,0,none⟩),.pointer (some ⟨b3,0,none⟩)])∧e 9=.int .i64 v.1∧h=⟨G1,[.blk b4 [.int .i64 v.2.1],.blk b3 [.bool true],.blk b6 (pn [n0,n1,n2,n3,n4,n5,n6]),.reg 2 [.int .i64 n0,.int .i64 (n0+n1),.int .i64 n2,.int .i64 n3,.int .i64 n4,.int .i64 n5,.int .i64 n6,.bool tx,.int .i64 ct,.slice none 0 0]],[]⟩) ?_ ?_
 ·by_cases hv0:v.2.2=0
  ·have hbn:¬ (0≤v.1∧v.1≤16)→eX 15 l=none:=fun h=>by rw[hb3,kp,if_neg fun hc=>h hc.2]
   rw[if_pos hv0,if_pos hv0,if_pos hv0];intros;refine gR 92 101 c198r16.eq_1 ?_;refine⟨_,dZ m2' rfl,?_⟩;refine sI ?_;refine gdD (fun k1=>?_) (fun k1=>?_)
   ·refine sI ?_;intros;refine gC ?_;exact hbad _ _ _ _ (hbn fun h=>by omega) (eE)
   refine sI ?_;intros;refine gC ?_;refine gbD (fun k2=>?_) (fun k2=>?_)
   ·exact hbad _ _ _ _ (hbn fun h=>by omega) (eE)
   intros;refine dT ?_;exact eF ⟨⟨hv0,by omega,by omega⟩,⟨eE,eE,eE,eE⟩,eE,rfl⟩
  ·rw[if_neg hv0,if_neg hv0,if_neg hv0];intros;refine gR 92 101 c198r16.eq_1 ?_;refine⟨_,dZ m2' rfl,?_⟩;refine sI ?_;intros;refine gC ?_;exact hbad _ _ _ _ (by rw[hb3,kp,if_neg fun hc=>hv0 hc.1]) (eE)
 clear hbad;rintro e h ⟨⟨hv0,hv1,hv2⟩,⟨e1,e3,e4,e5⟩,e9,rfl⟩;obtain⟨many,hmany⟩:∃ n:Nat,v.1=n:=⟨v.1.toNat,by omega⟩;obtain⟨pv,-,hv21,-,hpv,-⟩:=hvok hv0;rw[hmany]at e9;have hpn:0≤v.2.1:=by omega
 have hb4:eX 15 l=lh l [n0,n1,n2,n3,n4,n5,n6] m many (if 0 < many then fH l v.2.1 else(0,v.2.1,0)):=by
  rw[hb3,kp,if_pos ⟨hv0,hv1,hv2⟩,hmany];simp only[Int.toNat_natCast];congr 1;by_cases h:0 < many
  ·rw[if_pos h,if_pos (by omega)]
  ·rw[if_neg h,if_neg (by omega)]
 refine dV [1,3,4,5,9] ?_;refine sJ5 @e1 @e3 @e4 @e5 @e9 ?_;have hmany16:many≤16:=by omega
 generalize v.2.1=p2 at hb4 hpn;clear hb3 hvok hv21 hpv;intros;refine gR 0 0 c198r18.eq_1 ?_;intros;try refine ed ?_
 refine eL (fun e h=>∃ (s:Int × Int × Int),(s=(if 0 < many then fH l p2 else(0,p2,0)))∧(e 1=.pointer (some ⟨b1,0,none⟩)∧e 3=.pointer (some ⟨b3,0,none⟩)∧e 4=.pointer (some ⟨b4,0,none⟩)∧e 5=.func (.func 212) #[] #[.pointer (some ⟨b1,0,none⟩),.pointer (some ⟨b4,0,none⟩),.pointer (some ⟨b3,0,none⟩)])∧e 9=.int .i64 (many:Int)∧e 10=.int .i64 (if s.2.2=0 then s.1 else 0)∧h=⟨G1,[.blk b4 [.int .i64 (if s.2.2=0 then s.2.1 else p2)],.blk b3 [.bool (if s.2.2=0 then true else false)],.blk b6 (pn [n0,n1,n2,n3,n4,n5,n6]),.reg 2 [.int .i64 n0,.int .i64 (n0+n1),.int .i64 n2,.int .i64 n3,.int .i64 n4,.int .i64 n5,.int .i64 n6,.bool tx,.int .i64 ct,.slice none 0 0]],[]⟩) ?_ ?_
 ·intros;refine gR 103 104 c198r19.eq_1 ?_;intros;refine gC ?_;refine gbD (fun k1=>?_) (fun k1=>?_)
  ·intros;refine gR 105 107 c198r20.eq_1 ?_;refine .inl ⟨_,_,rfl,?_⟩;refine(nO l p2 true b1 b3 b4 _ G1 hl1 h1 _ []).mono ?_;rintro r h' ⟨G',L',rfl,-,rfl,rfl,rfl⟩;refine sI ?_;intros;refine dT ?_;exact eF ⟨fH l p2,by rw[if_pos (by omega)],⟨eE,eE,eE,eE⟩,eE,eE,rfl⟩
  ·intros;refine dT ?_;exact eF ⟨(0,p2,0),by rw[if_neg (by omega)],⟨eE,eE,eE,eE⟩,eE,eE,rfl⟩
 rintro e h ⟨s,hs,⟨e1,e3,e4,e5⟩,e9,e10,rfl⟩;rw[← hs]at hb4;have hsn:0≤s.2.1:=by
  rw[hs];split
  ·exact ku _ _
  ·exact hpn
 clear hs;refine dV [1,3,4,9,10] ?_;refine sJ5 @e1 @e3 @e4 @e9 @e10 ?_;have hb5:eX 15 l=if s.2.2=0 then(gQ l n0 s.1 s.2.1.toNat many).bind fun r=>if r.2=l.length∧wH r.1 s.1=true then some (mkB [n0,n1,n2,n3,n4,n5,n6] m r.1)else none else none:=hb4
 clear hb4;obtain⟨st,hst⟩:∃ st,st=(if s.2.2=0 then s.1 else 0):=⟨_,rfl⟩;rw[← hst];intros;refine gR 0 0 c198r21.eq_1 ?_;intros
 refine dU (dX (L':=[.blk b4 [.int .i64 (if s.2.2=0 then s.2.1 else p2)],.blk b3 [.bool (if s.2.2=0 then true else false)],.reg 2 [.int .i64 n0,.int .i64 (n0+n1),.int .i64 n2,.int .i64 n3,.int .i64 n4,.int .i64 n5,.int .i64 n6,.bool tx,.int .i64 ct,.slice none 0 0]]) (.cons_cons _ (.cons_cons _ (.cons _ KJ)))) ?_;refine dU (eA none 103 5) ?_
 refine eL (fun e h=>∃ (rs:List Rec) (a:Int) (ok:Bool) (u:Value) (zc:Kt) (G':Ks),((ok=true∧s.2.2=0∧gQ l n0 s.1 s.2.1.toNat many=some (rs,a.toNat)∧0≤a∧wH rs s.1=true)∨(ok=false∧eX 15 l=none))∧(rs.length≤16∧Gle G1 G'∧Cells RR 5 rs zc) ∧
  (e 1=.pointer (some ⟨b1,0,none⟩)∧e 3=.pointer (some ⟨b3,0,none⟩)∧e 4=.pointer (some ⟨b4,0,none⟩))∧h=⟨G',[.row u 103 5 rs.length zc,.blk b4 [.int .i64 a],.blk b3 [.bool ok],.reg 2 [.int .i64 n0,.int .i64 (n0+n1),.int .i64 n2,.int .i64 n3,.int .i64 n4,.int .i64 n5,.int .i64 n6,.bool tx,.int .i64 ct,u]],[]⟩) ?_ ?_
 ·intros;refine dT ?_;refine ej (fun e h=>∃ (k:Nat) (rs:List Rec) (a:Int) (ok:Bool) (u:Value) (zc:Kt) (G':Ks),(k≤many∧rs.length=k∧Gle G1 G'∧Cells RR 5 rs zc∧((ok=true∧s.2.2=0∧gQ l n0 s.1 s.2.1.toNat k=some (rs,a.toNat)∧0≤a∧wH rs s.1=true)∨(ok=false∧eX 15 l=none))) ∧
   e 1=.pointer (some ⟨b1,0,none⟩)∧e 3=.pointer (some ⟨b3,0,none⟩)∧e 4=.pointer (some ⟨b4,0,none⟩)∧e 9=.int .i64 (many:Int)∧e 10=.int .i64 st∧e 11=.int .i64 k∧h.G=G'∧h.D=[]∧[.row u 103 5 rs.length zc,.blk b4 [.int .i64 a],.blk b3 [.bool ok],.reg 2 [.int .i64 n0,.int .i64 (n0+n1),.int .i64 n2,.int .i64 n3,.int .i64 n4,.int .i64 n5,.int .i64 n6,.bool tx,.int .i64 ct,u]].Sublist h.L) (fun e h=>many - iv (e 11)) ?_ ?_
  ·refine⟨0,[],_,_,_,[],G1,⟨Nat.zero_le _,rfl,.refl _,.nil,?_⟩,eE,eE,eE,eE,eE,eE,rfl,rfl,List.Sublist.refl _⟩;by_cases h:s.2.2=0
   ·rw[if_pos h,if_pos h];exact .inl ⟨rfl,h,rfl,hsn,rfl⟩
   ·rw[if_neg h,if_neg h];exact .inr ⟨rfl,by rw[hb5,if_neg h]⟩
  ·rintro e ⟨G',L,D⟩ ⟨k,rs,a,ok,u,zc,G2,⟨hk,hrl,hgg,hcs,hor⟩,e1,e3,e4,e9,e10,e11,hG,hD,hL⟩;dsimp only at hG hD hL;subst hG hD;refine dU (dX hL) ?_;refine dV [1,3,4,9,10,11] ?_;refine sJ6 @e1 @e3 @e4 @e9 @e10 @e11 ?_;intros;refine gR 107 112 c198r22.eq_1 ?_;refine gd (fun k1=>?_) (fun k1=>?_);rotate_left
   ·have k1:k=many:=by have:=KN k1;omega
    subst k1;refine sI ?_;intros;refine gC ?_;refine eg ?_;refine sI ?_;exact eF ⟨rs,a,ok,u,zc,G',hor,⟨by omega,hgg,hcs⟩,⟨eE,eE,eE⟩,rfl⟩
   have k1:k < many:=by have:=KM k1;omega
   refine sI ?_;refine⟨_,dZ (.tail _ (.tail _ (.head _))) rfl,?_⟩;refine sI ?_;intros;refine gC ?_;refine gb (fun k2=>?_) (fun k2=>?_);rotate_left
   ·rcases hor with⟨h,-⟩ | ⟨_,h⟩
    ·rw[h]at k2;cases k2
    refine eg ?_;refine sI ?_;exact eF ⟨rs,a,ok,u,zc,G',.inr ⟨k2,h⟩,⟨by omega,hgg,hcs⟩,⟨eE,eE,eE⟩,rfl⟩
   subst k2;rcases hor with⟨-,hs0,hrg,ha,hso⟩ | ⟨h,_⟩
   rotate_left
   ·cases h
   rw[if_pos hs0]at hst;subst hst;have hw:=eW k many k1 (by unfold maxLen;omega);obtain⟨pa,rfl⟩:∃ n:Nat,a=n:=⟨a.toNat,by omega⟩;rw[Int.toNat_natCast]at hrg;have hrec:=DY l pa n0 s.1 _ G' (SB.le hl1 hgg);have hrr:=xe l pa n0 s.1;have hnxt:gQ l n0 s.1 s.2.1.toNat (k+1)=if (getR l pa n0 s.1).2.2=0 then some (rs++[(getR l pa n0 s.1).1],(getR l pa n0 s.1).2.1.toNat)else none:=by
    rw[gQ,hrg];rfl
   have hnn:=xT l pa n0 s.1;generalize getR l pa n0 s.1=q at hrec hrr hnxt hnn;obtain⟨r,nx,er⟩:=q;dsimp only at hrr hnxt hrec hnn;have hrr0:=hrr.1;unfold gT at hrec hrr;intros;refine gN ?_;intros;refine gR 115 125 c198r23.eq_1 ?_;refine⟨_,⟨_,rfl,.g (em hgg h1)⟩,?_⟩;refine sI ?_;refine⟨_,dZ (.tail _ (.head _)) rfl,?_⟩;refine sI ?_;refine(hrec _ _).mono ?_;rintro r h' ⟨rfl,rfl⟩;refine sI ?_
   intros;try refine ed ?_
   refine eL (fun e h=>(e 1=.pointer (some ⟨b1,0,none⟩)∧e 3=.pointer (some ⟨b3,0,none⟩)∧e 4=.pointer (some ⟨b4,0,none⟩))∧(e 9=.int .i64 (many:Int)∧e 10=.int .i64 s.1∧e 11=.int .i64 k∧e 13=.int .i64 nx)∧h=⟨G',[.reg 12 [.int .i64 r.off,.string r.key,.string r.val,.bool r.dead,.int .i64 r.stamp],.row u 103 5 rs.length zc,.blk b4 [.int .i64 (pa:Int)],.blk b3 [.bool (decide (er=0) && (decide (0 < k) || decide (r.stamp=s.1)))],.reg 2 [.int .i64 n0,.int .i64 (n0+n1),.int .i64 n2,.int .i64 n3,.int .i64 n4,.int .i64 n5,.int .i64 n6,.bool tx,.int .i64 ct,u]],[]⟩) ?_ ?_
   ·intros;refine gR 125 140 c198r24.eq_1 ?_;refine⟨_,dZ (.tail _ (.tail _ (.tail _ (.head _)))) rfl,?_⟩;refine sI ?_;refine gd (fun k2=>?_) (fun k2=>?_)
    ·have k3:=KM k2;refine sI ?_;refine gd (fun k4=>?_) (fun k4=>?_)
     ·have k5:=KM k4;refine sI ?_;refine ek [_,_,_] [_] rfl (by simp) ⟨rfl,rfl⟩ ?_;refine sI ?_;intros;refine dT ?_;refine eF ⟨⟨eE,eE,eE⟩,⟨eE,eE,eE,eE⟩,?_⟩;rw[decide_eq_true k3,decide_eq_true (show 0 < k by omega)];rfl
     ·have k5:=KN k4;refine sI ?_;refine ek [_,_,_] [_] rfl (by simp) ⟨rfl,rfl⟩ ?_;refine sI ?_;intros;refine dT ?_;refine eF ⟨⟨eE,eE,eE⟩,⟨eE,eE,eE,eE⟩,?_⟩;rw[decide_eq_true k3,decide_eq_false (show ¬ 0 < k by omega)];rfl
    ·have k3:=KN k2;refine sI ?_;refine ek [_,_,_] [_] rfl (by simp) ⟨rfl,rfl⟩ ?_;refine sI ?_;intros;refine dT ?_;refine eF ⟨⟨eE,eE,eE⟩,⟨eE,eE,eE,eE⟩,?_⟩;rw[decide_eq_false k3];rfl
   rintro e h ⟨⟨e1,e3,e4⟩,⟨e9,e10,e11,e13⟩,rfl⟩;refine dV [1,3,4,9,10,11,13] ?_;refine sJ7 @e1 @e3 @e4 @e9 @e10 @e11 @e13 ?_;have hok:∀ (j:Nat),j=k→((decide (er=0) && (decide (0 < k) || decide (r.stamp=s.1)))=true∧s.2.2=0∧gQ l n0 s.1 s.2.1.toNat (k+1)=some (rs++[r],nx.toNat)∧0≤nx∧wH (rs++[r]) s.1=true)∨((decide (er=0) && (decide (0 < k) || decide (r.stamp=s.1)))=false∧eX 15 l=none):=fun j _=>by
    by_cases h0:er=0
    ·rw[if_pos h0]at hnxt;by_cases h1:0 < k
     ·refine .inl ⟨by simp[h0,h1],hs0,hnxt,hnn,?_⟩
      match rs,hrl,hso with
      | x :: xs,_,hso=>exact hso
      | [],hrl,_=>simp at hrl;omega
     ·have hk0:k=0:=by omega
      have hrs:rs=[]:=List.eq_nil_of_length_eq_zero (by omega);subst hrs;by_cases h2:r.stamp=s.1
      ·refine .inl ⟨by simp[h0,h2],hs0,hnxt,hnn,by simp[wH,h2]⟩
      ·refine .inr ⟨by simp[h0,h1,h2],?_⟩;rw[hb5,if_pos hs0];cases hrm:gQ l n0 s.1 s.2.1.toNat many with
       | none=>rfl
       | some q =>
        simp only[Option.bind_some];have hpre:=wT hrm (k+1) (by omega);rw[hnxt]at hpre;obtain⟨q2,hq,t,ht⟩:=hpre;cases hq;refine if_neg fun hc=>?_
        rw[ht]at hc;have:=hc.2;simp[wH,h2]at this
    ·rw[if_neg h0]at hnxt;refine .inr ⟨by simp[h0],?_⟩;have:=mp (many - (k+1)) (k+1) hnxt;rw[show k+1+(many - (k+1))=many by omega]at this;rw[hb5,if_pos hs0,this];rfl
   have hok:=hok k rfl;generalize (decide (er=0) && (decide (0 < k) || decide (r.stamp=s.1)))=ok at hok ⊢;intros;refine gR 140 141 c198r25.eq_1 ?_;refine ek [_,_] [_,_] rfl (by simp) ⟨rfl,rfl⟩ ?_;refine sI ?_;intros;refine gR 142 146 c198r26.eq_1 ?_;intro bk hbk;refine xj (L1:=[_]) (L2:=[_,_,_]) (E:=RR) (x:=r) rfl hrr rfl (by simp[Value.oneCell']) hcs (by omega) (by omega) fun A' c' zc' hzc=>?_
   refine sI ?_;intros;refine gR2 113 115 c198r27.eq_1 @hw ?_;intros;refine dT ?_;refine eF ⟨⟨k+1,rs++[r],nx,ok,_,zc',G',⟨by omega,by simp[hrl],hgg,hzc,hok⟩,eE,eE,eE,eE,eE,eE,rfl,rfl,.cons _ (.cons _ KJ)⟩,?_⟩;refine sI ?_;omega
 rintro e h ⟨rs,a,ok,u,zc,G',hor,⟨hrl,hgg,hcs⟩,⟨e1,e3,e4⟩,rfl⟩;refine dV [1,3,4] ?_;refine sJ3 @e1 @e3 @e4 ?_;intros;refine eI (eh [] _ (by decide) hcs) ?_;rintro h' ⟨G2,rfl,hg2,B,d,rfl,hd1,hd2,hB⟩;refine dU (eO (.swap _ _ _)) ?_;have h12:=em (hgg.trans hg2) h1
 have hfin:∀ (t:Bool),(if t=true then eX 15 l=some ⟨n0,n0+n1,n2,n3,n4,n5,n6,tx,ct,rs⟩else eX 15 l=none)→mU 15 l G2 (.tuple #[.agg #[.int .i64 n0,.int .i64 (n0+n1),.int .i64 n2,.int .i64 n3,.int .i64 n4,.int .i64 n5,.int .i64 n6,.bool tx,.int .i64 ct,.slice B rs.length d],.bool t]):=fun t ht =>
  ⟨⟨n0,n0+n1,n2,n3,n4,n5,n6,tx,ct,rs⟩,_,t,rfl,⟨B,d,rfl,⟨hd1,hd2,hB⟩,hi7.1,hi7.2.1,hi7.2.2.1,hi7.2.2.2.1,hi7.2.2.2.2.1,hi7.2.2.2.2.2.1,hi7.2.2.2.2.2.2,hcti⟩,ht⟩
 rcases hor with⟨rfl,hs0,hrg,ha,hso⟩ | ⟨rfl,hno⟩
 ·intros;refine dT ?_;refine qe _ KJ (by decide) ?_;refine sJ c198r28.eq_1 ?_;refine⟨_,dZ (.head _) rfl,?_⟩;refine sI ?_;refine⟨_,dZ (.tail _ (.head _)) rfl,?_⟩;refine sI ?_;refine⟨_,⟨_,rfl,.g h12⟩,?_⟩;refine sI ?_;refine ek [] [_,_] rfl (by simp) ⟨rfl,rfl⟩ ?_;refine sI ?_;intros;refine dT ?_
  refine ea (kd (out:=[.agg #[.int .i64 n0,.int .i64 (n0+n1),.int .i64 n2,.int .i64 n3,.int .i64 n4,.int .i64 n5,.int .i64 n6,.bool tx,.int .i64 ct,.slice B rs.length d],.bool (decide (a=(l.length:Int)))]) ?_ ?_)
  ·simp[o198,mR,Kx.getR,getB,vg,ldC,Env.set]
  ·refine hfin _ ?_;rw[hb5,if_pos hs0,hrg];simp only[Option.bind_some];by_cases h:a=(l.length:Int)
   ·rw[if_pos (decide_eq_true h),if_pos ⟨by omega,hso⟩,hmk]
   ·rw[if_neg (by simpa using h),if_neg (fun hc=>h (by omega))]
 ·intros;refine dT ?_;refine qe _ KJ (by decide) ?_;refine sJ c198r28.eq_1 ?_;refine⟨_,dZ (.head _) rfl,?_⟩;refine sI ?_;refine ek [] [_,_] rfl (by simp) ⟨rfl,rfl⟩ ?_;refine sI ?_;intros;refine dT ?_;refine ea (kd (out:=[.agg #[.int .i64 n0,.int .i64 (n0+n1),.int .i64 n2,.int .i64 n3,.int .i64 n4,.int .i64 n5,.int .i64 n6,.bool tx,.int .i64 ct,.slice B rs.length d],.bool false]) ?_ ?_)
  ·simp[o198,mR,Kx.getR,getB,vg,ldC,Env.set]
  ·exact hfin false hno
theorem F209:Fun Tryz.prog 209 171 v209 c209 o209:=Fun.mkA Tryz.func209 Tryz.ntmps209
theorem DC{l:KD}{p:Nat}(h:l[p]?=none):ix l (p:Int) 1=(0,10):=by
 have:=List.getElem?_eq_none_iff.1 h;rw[jO,if_pos (by simp;omega)]
theorem Dm{l:KD}{p:Nat}{m:UInt8}(h:l[p]?=some m):ix l (p:Int) 1=(m.toNat,0):=by
 have h2:=List.getElem?_eq_some_iff.1 h;have h3:=h2.1;rw[jO,if_neg (by simp;omega),List.drop_eq_getElem_cons h2.1,h2.2];simp[la]
set_option maxHeartbeats 2000000 in
theorem Eg(l:KD)(v:Value)(G:Ks)(hl:SB G v l)(hb:l.length≤1000000):FnD Tryz.prog 209 #[v] G (mU 16 l):=by
 refine F209.fnD (by simp) (dY ?_);have hl00:=hl;obtain⟨A,c,rfl,hc,hm,hA⟩:=hl;unfold c209;intros;refine gR 0 0 c209r0.eq_1 ?_;intros;refine gR 0 0 c209r1.eq_1 ?_;intros;refine gR 0 0 c209r2.eq_1 ?_;intros;refine gR 21 22 c209r3.eq_1 ?_;intro b6 hb6;refine sI ?_;refine ek [] [_,_] rfl (by simp) ⟨rfl,rfl⟩ ?_;refine sI ?_;intros;refine gR 0 0 c209r4.eq_1 ?_;intros
 refine eL (fun e h=>∃ (ns:KG) (p:Nat),(ns.length=7∧(∀ z∈ns,I64 z)∧mT l 7=some (ns,p)) ∧
  (e 0=.slice A l.length c∧e 5=.int .i64 (p:Int)∧e 6=.pointer (some ⟨b6,0,none⟩))∧h=⟨G,[.blk b6 (pn ns),.reg 4 [.int .i64 0,.int .i64 0,.int .i64 0,.int .i64 0,.int .i64 0,.int .i64 0,.int .i64 0,.bool false,.int .i64 0,.slice none 0 0],.reg 2 [.int .i64 0,.int .i64 0,.int .i64 0,.int .i64 0,.int .i64 0,.int .i64 0,.int .i64 0,.bool false,.int .i64 0,.slice none 0 0]],[]⟩) ?_ ?_
 ·intros;refine dT ?_;refine ej (fun e h=>∃ (k:Nat) (zs:KG) (p:Nat),(k≤7∧zs.length=7∧(∀ z∈zs,I64 z)∧mT l k=some (zs.take k,p))∧e 22=.int .i64 k ∧
   e 0=.slice A l.length c∧e 5=.int .i64 (p:Int)∧e 6=.pointer (some ⟨b6,0,none⟩)∧h=⟨G,[.blk b6 (pn zs),.reg 4 [.int .i64 0,.int .i64 0,.int .i64 0,.int .i64 0,.int .i64 0,.int .i64 0,.int .i64 0,.bool false,.int .i64 0,.slice none 0 0],.reg 2 [.int .i64 0,.int .i64 0,.int .i64 0,.int .i64 0,.int .i64 0,.int .i64 0,.int .i64 0,.bool false,.int .i64 0,.slice none 0 0]],[]⟩) (fun e h=>7 - iv (e 22)) ?_ ?_
  ·exact⟨0,[0,0,0,0,0,0,0],0,⟨Nat.zero_le _,rfl,by decide,rfl⟩,eE,eE,eE,eE,rfl⟩
  ·rintro e h ⟨k,zs,p,⟨hk,hzl,hzi,hn⟩,e22,e0,e5,e6,rfl⟩;refine dV [0,5,6,22] ?_;refine sJ4 @e0 @e5 @e6 @e22 ?_;intros;refine gR 0 0 c209r5.eq_1 ?_;intros;refine gC ?_;refine gb (fun ht=>?_) (fun ht=>?_)
   ·have hk7:k < 7:=by have:=KM ht;omega
    have hw:=eW k 7 hk7 (by unfold maxLen;omega);have hgv:=iL l p _ G hl00;have hnx:mT l (k+1)=if (fH l p).2.2=0 then some (zs.take k++[(fH l p).1],(fH l p).2.1.toNat)else none:=by
     rw[mT,hn];rfl
    have hi:=@jW l p;have hnn:=ku l p;generalize fH l p=q at hgv hnx hi hnn;obtain⟨x,nx,er⟩:=q;dsimp only at hgv hnx hnn;intros;refine gN ?_;intros;refine gR 24 25 c209r6.eq_1 ?_;intros;refine gR 25 32 c209r7.eq_1 ?_;refine fK (hgv _ _) ?_;intros;refine gR 32 33 c209r8.eq_1 ?_;intros;refine gC ?_;refine gb (fun k1=>?_) (fun k1=>?_)
    ·have k1:=KM k1;have hx:eX 16 l=none:=by
      rw[if_neg k1]at hnx;have:=nG (7 - (k+1)) (k+1) hnx;rw[show k+1+(7 - (k+1))=7 by omega]at this;rw[eX,this];rfl
     intros;refine gR 34 35 c209r9.eq_1 ?_;intros;refine rW ?_;exact⟨_,_,false,rfl,BE.zero,hx⟩
    have k1:er=0:=by simpa using k1
    rw[if_pos k1]at hnx;obtain⟨_,_,_,_,_,hxi⟩:=hi k1;obtain⟨nx,rfl⟩:∃ n:Nat,nx=n:=⟨nx.toNat,by omega⟩;rw[Int.toNat_natCast]at hnx;intros;refine gN ?_;intros;refine gR 35 38 c209r10.eq_1 ?_;refine⟨by omega,?_⟩;rw[show 0+k * 1=k by omega];refine ek [] [_,_] rfl (by simp[pn];omega) ⟨rfl,rfl⟩ ?_;simp only[List.nil_append];rw[oE (by omega)];refine sI ?_;intros;refine gR 38 39 c209r11.eq_1 ?_
    intros;refine gR2 39 40 c209r12.eq_1 @hw ?_;intros;refine dT ?_;refine eF ⟨⟨k+1,zs.set k x,nx,⟨by omega,by simp[hzl],fun z hz=>?_,by rw[s9 (by omega)];exact hnx⟩,eE,eE,eE,eE,rfl⟩,?_⟩
    ·rcases List.mem_or_eq_of_mem_set hz with h | h
     ·exact hzi z h
     ·rw[h];exact hxi
    ·refine sI ?_;omega
   ·have hk7:k=7:=by have:=KN ht;omega
    subst hk7;rw[List.take_of_length_le (by omega)]at hn;refine eg ?_;refine sI ?_;exact eF ⟨zs,p,⟨hzl,hzi,hn⟩,⟨eE,eE,eE⟩,rfl⟩
 rintro e h ⟨ns,p,⟨hnl,hni,hnum⟩,⟨e0,e5,e6⟩,rfl⟩;refine dV [0,5,6] ?_;refine sJ3 @e0 @e5 @e6 ?_;obtain⟨n0,n1,n2,n3,n4,n5,n6,rfl⟩:∃ n0 n1 n2 n3 n4 n5 n6:Int,ns=[n0,n1,n2,n3,n4,n5,n6]:=by
  match ns,hnl with
  | [n0,n1,n2,n3,n4,n5,n6],_=>exact⟨n0,n1,n2,n3,n4,n5,n6,rfl⟩
 have hb2:eX 16 l=kt 16 l ([n0,n1,n2,n3,n4,n5,n6],p):=by rw[eX,hnum];rfl
 have hgn:=tG l p 1 (by omega) _ G hl00
 have hbad:∀ (fr:KA) (e:Env),eX 16 l=none→go none Tryz.prog 171 v209.1 v209.2 (fI o209 fun v h=>mU 16 l h.G v) (Td.s ((SC.reg false c209r15).seq .ret) :: fr) e ⟨G,[.blk b6 (pn [n0,n1,n2,n3,n4,n5,n6]),.reg 4 [.int .i64 0,.int .i64 0,.int .i64 0,.int .i64 0,.int .i64 0,.int .i64 0,.int .i64 0,.bool false,.int .i64 0,.slice none 0 0],.reg 2 [.int .i64 0,.int .i64 0,.int .i64 0,.int .i64 0,.int .i64 0,.int .i64 0,.int .i64 0,.bool false,.int .i64 0,.slice none 0 0]],[]⟩:=fun fr e hx=>by
  intros;refine gR 52 53 c209r15.eq_1 ?_;intros;refine rW ?_;exact⟨_,_,false,rfl,BE.zero,hx⟩
 have hbad2:∀ (fr:KA) (e:Env),eX 16 l=none→go none Tryz.prog 171 v209.1 v209.2 (fI o209 fun v h=>mU 16 l h.G v) (Td.s ((SC.reg false c209r18).seq .ret) :: fr) e ⟨G,[.blk b6 (pn [n0,n1,n2,n3,n4,n5,n6]),.reg 4 [.int .i64 0,.int .i64 0,.int .i64 0,.int .i64 0,.int .i64 0,.int .i64 0,.int .i64 0,.bool false,.int .i64 0,.slice none 0 0],.reg 2 [.int .i64 0,.int .i64 0,.int .i64 0,.int .i64 0,.int .i64 0,.int .i64 0,.int .i64 0,.bool false,.int .i64 0,.slice none 0 0]],[]⟩:=fun fr e hx=>by
  intros;refine gR 91 92 c209r18.eq_1 ?_;intros;refine rW ?_;exact⟨_,_,false,rfl,BE.zero,hx⟩
 cases hy:l[p]? with
 | none =>
  rw[DC hy]at hgn;dsimp only at hgn;have hx:eX 16 l=none:=by rw[hb2,kt,hy];rfl
  intros;refine gR 40 46 c209r13.eq_1 ?_;refine fK (hgn _ _) ?_;intros;refine gR 46 51 c209r14.eq_1 ?_;refine gd (fun _=>?_) (fun h=>by simp at h);refine sI ?_;intros;refine gC ?_;exact hbad _ _ hx
 | some m =>
 rw[Dm hy]at hgn;dsimp only at hgn;have hpl:=(List.getElem?_eq_some_iff.1 hy).1;have hml:=m.toNat_lt;unfold maxLen at hm;have hb3:eX 16 l=if m.toNat < 8∧(0≤n0∧n0≤1099511627776)∧(0≤n1∧n1≤16)then kp l [n0,n1,n2,n3,n4,n5,n6] m (fH l ((p:Int)+1))else none:=by
  rw[hb2,kt,hy];rfl
 clear hb2;have wp:=eW p l.length hpl (by unfold maxLen;omega);intros;refine gR 40 46 c209r13.eq_1 ?_;refine fK (hgn _ _) ?_;intros;refine gR 46 51 c209r14.eq_1 ?_;refine gd (fun h=>by simp at h) (fun _=>?_);refine sI ?_;intros;refine gC ?_;refine gbD (fun k1=>?_) (fun k1=>?_)
 ·exact hbad _ _ (by rw[hb3,if_neg (fun h=>by omega)])
 clear hbad;have hgv:=iL l ((p:Int)+1) _ G hl00;have hi:=@jW l ((p:Int)+1);have hnn:=ku l ((p:Int)+1);generalize fH l ((p:Int)+1)=q at hgv hb3 hi hnn;obtain⟨x,nx,er⟩:=q;dsimp only at hgv hnn;intros;refine gN ?_;intros;refine gR2 53 61 c209r16.eq_1 @wp ?_;refine fK (hgv _ _) ?_;have hf:¬ ((0≤n0∧n0≤1099511627776)∧(0≤n1∧n1≤16)∧er=0∧0≤x∧x≤16)→eX 16 l=none:=fun h=>by
  rw[hb3];split
  ·rename_i hc;exact if_neg fun h2=>h ⟨hc.2.1,hc.2.2,h2⟩
  ·rfl
 intros;refine gR 61 90 c209r17.eq_1 ?_;refine gd (fun k2=>?_) (fun k2=>?_)
 ·have k2:=KM k2;refine sI ?_;intros;refine gC ?_;exact hbad2 _ _ (hf fun h=>k2 h.2.2.1)
 have k2:er=0:=by simpa using k2
 refine sI ?_;refine gdD (fun k3=>?_) (fun k3=>?_)
 ·refine sI ?_;intros;refine gC ?_;exact hbad2 _ _ (hf fun h=>by omega)
 refine sI ?_;refine gdD (fun k4=>?_) (fun k4=>?_)
 ·refine sI ?_;intros;refine gC ?_;exact hbad2 _ _ (hf fun h=>by omega)
 refine sI ?_;refine⟨by omega,?_⟩;refine⟨_,dZ (o:=1) (.head _) rfl,?_⟩;refine sI ?_;refine gdD (fun k5=>?_) (fun k5=>?_)
 ·refine sI ?_;intros;refine gC ?_;exact hbad2 _ _ (hf fun h=>by omega)
 refine sI ?_;refine⟨by omega,?_⟩;refine⟨_,dZ (o:=1) (.head _) rfl,?_⟩;refine sI ?_;refine gdD (fun k6=>?_) (fun k6=>?_)
 ·refine sI ?_;intros;refine gC ?_;exact hbad2 _ _ (hf fun h=>by omega)
 refine sI ?_;refine⟨by omega,?_⟩;refine⟨_,dZ (o:=0) (.head _) rfl,?_⟩;refine sI ?_;refine gdD (fun k7=>?_) (fun k7=>?_)
 ·refine sI ?_;intros;refine gC ?_;exact hbad2 _ _ (hf fun h=>by omega)
 refine sI ?_;refine⟨by omega,?_⟩;refine⟨_,dZ (o:=0) (.head _) rfl,?_⟩;refine sI ?_;intros;refine gC ?_;refine gbD (fun k8=>?_) (fun k8=>?_)
 ·exact hbad2 _ _ (hf fun h=>by omega)
 clear hbad2 hf;obtain⟨many,rfl⟩:∃ n:Nat,x=n:=⟨x.toNat,by omega⟩;have hmany16:many≤16:=by omega
 obtain⟨pv,-,hv21,-,hpv,-⟩:=hi k2;obtain⟨p2,rfl⟩:∃ n:Nat,nx=n:=⟨nx.toNat,by omega⟩;have hb4:eX 16 l=lh l [n0,n1,n2,n3,n4,n5,n6] m many (if 0 < many then fH l p2 else(0,(p2:Int),0)):=by
  rw[hb3,if_pos ⟨by omega,by omega,by omega⟩,kp,if_pos ⟨k2,by omega,by omega⟩];simp only[Int.toNat_natCast];congr 1;by_cases h:0 < many
  ·rw[if_pos h,if_pos (by omega)]
  ·rw[if_neg h,if_neg (by omega)]
 clear hb3 hi hv21 hpv hgv hgn;have wl:IntKind.i64.wrap (n0+n1)=n0+n1:=by rw[ei] <;> omega
 have htx:decide ((4:Int)≤(m.toNat:Int))=decide (4≤m.toNat):=by
  by_cases h:4≤m.toNat
  ·rw[decide_eq_true h,decide_eq_true (by omega)]
  ·rw[decide_eq_false h,decide_eq_false (by omega)]
 have hct:IntKind.i64.wrap ((m.toNat % 4:Nat):Int)=((m.toNat % 4:Nat):Int):=by rw[ei] <;> omega
 have hrm:fq .rem (.int .u64 (m.toNat:Int)) (.int .u64 4)=some (.int .u64 ((m.toNat % 4:Nat):Int)):=mL .u64 m.toNat 4 (by decide);have hmk:∀ rs,mkB [n0,n1,n2,n3,n4,n5,n6] m rs=⟨n0,n0+n1,n2,n3,n4,n5,n6,decide (4≤m.toNat),((m.toNat % 4:Nat):Int),rs⟩:=fun _=>rfl
 have hcti:I64 ((m.toNat % 4:Nat):Int):=by unfold I64;omega
 generalize decide (4≤m.toNat)=tx at htx hmk;generalize ((m.toNat % 4:Nat):Int)=ct at hct hmk hcti hrm;have hi7:I64 n0∧I64 (n0+n1)∧I64 n2∧I64 n3∧I64 n4∧I64 n5∧I64 n6:=⟨hni _ (by simp),by unfold I64;omega,hni _ (by simp),hni _ (by simp),hni _ (by simp),hni _ (by simp),hni _ (by simp)⟩;intros;refine gN ?_;intros;refine gR 92 115 c209r19.eq_1 ?_;refine⟨by omega,?_⟩
 refine⟨_,dZ (o:=0) (.head _) rfl,?_⟩;refine sI ?_;refine⟨by omega,?_⟩;refine⟨_,dZ (o:=0) (.head _) rfl,?_⟩;refine sI ?_;refine⟨by omega,?_⟩;refine⟨_,dZ (o:=1) (.head _) rfl,?_⟩;refine sJ @wl ?_;refine⟨by omega,?_⟩;refine⟨_,dZ (o:=2) (.head _) rfl,?_⟩;refine sI ?_;refine⟨by omega,?_⟩;refine⟨_,dZ (o:=3) (.head _) rfl,?_⟩;refine sI ?_;refine⟨by omega,?_⟩;refine⟨_,dZ (o:=4) (.head _) rfl,?_⟩
 refine sI ?_;refine⟨by omega,?_⟩;refine⟨_,dZ (o:=5) (.head _) rfl,?_⟩;refine sI ?_;refine⟨by omega,?_⟩;refine⟨_,dZ (o:=6) (.head _) rfl,?_⟩
 (try simp -implicitDefEqProofs only[mg,mf,push_cast,Nat.reduceBEq,Nat.reduceAdd,Nat.reduceSub,Nat.reduceMul,Nat.reduceLT,Nat.reduceLeDiff,Nat.reduceEqDiff,reduceIte,Bool.not_true,Bool.not_false,true_and,and_true,Option.map_some,Option.bind_some,Int.toNat_natCast,htx,hrm,hct])
 intros;refine gR 0 0 c209r20.eq_1 ?_;have hzero:∀ (e:Env) (xs:Kt),True:=fun _ _=>trivial
 have hout:∀ {rs:List Rec} {B:Ky} {d:Nat} {G2:Ks} (t:Bool),SlV G2 RR 5 (.slice B rs.length d) rs→(if t=true then eX 16 l=some ⟨n0,n0+n1,n2,n3,n4,n5,n6,tx,ct,rs⟩else eX 16 l=none)→mU 16 l G2 (.tuple #[.agg #[.int .i64 n0,.int .i64 (n0+n1),.int .i64 n2,.int .i64 n3,.int .i64 n4,.int .i64 n5,.int .i64 n6,.bool tx,.int .i64 ct,.slice B rs.length d],.bool t]):=fun {rs B d G2} t hB ht=>by
  obtain⟨B',d',he,hd1,hd2,hB⟩:=hB;cases he;exact⟨⟨n0,n0+n1,n2,n3,n4,n5,n6,tx,ct,rs⟩,_,t,rfl,⟨B,d,rfl,⟨hd1,hd2,hB⟩,hi7.1,hi7.2.1,hi7.2.2.1,hi7.2.2.2.1,hi7.2.2.2.2.1,hi7.2.2.2.2.2.1,hi7.2.2.2.2.2.2,hcti⟩,ht⟩
 intros;try refine ed ?_
 refine eL (fun e h=>∃ (s:Int × Int × Int) (p3:Nat),(s=(if 0 < many then fH l p2 else(0,(p2:Int),0))∧s.2.2=0∧s.2.1=p3)∧(e 0=.slice A l.length c∧e 5=.int .i64 (p3:Int)∧e 13=.int .i64 (many:Int)∧e 14=.int .i64 s.1) ∧
  h=⟨G,[.blk b6 (pn [n0,n1,n2,n3,n4,n5,n6]),.reg 4 [.int .i64 n0,.int .i64 (n0+n1),.int .i64 n2,.int .i64 n3,.int .i64 n4,.int .i64 n5,.int .i64 n6,.bool tx,.int .i64 ct,.slice none 0 0],.reg 2 [.int .i64 0,.int .i64 0,.int .i64 0,.int .i64 0,.int .i64 0,.int .i64 0,.int .i64 0,.bool false,.int .i64 0,.slice none 0 0]],[]⟩) ?_ ?_
 ·intros;refine gR 115 116 c209r21.eq_1 ?_;intros;refine gC ?_;refine gbD (fun k1=>?_) (fun k1=>?_)
  ·rw[if_pos (by omega)]at hb4;have hgv:=iL l p2 _ G hl00;have hnn:=ku l p2;obtain⟨s,hs⟩:∃ s,s=fH l p2:=⟨_,rfl⟩;rw[← hs]at hgv hb4 hnn;intros;refine gR 117 124 c209r22.eq_1 ?_;refine fK (hgv _ _) ?_;intros;refine gR 124 125 c209r23.eq_1 ?_;intros;refine gC ?_;refine gb (fun k9=>?_) (fun k9=>?_)
   ·have k9:=KM k9;intros;refine gR 126 127 c209r24.eq_1 ?_;intros;refine rW ?_;exact hout (rs:=[]) false SlV.nil (by rw[hb4,lh,if_neg k9];rfl)
   have k9:s.2.2=0:=by simpa using k9
   obtain⟨p3,hp3⟩:∃ n:Nat,s.2.1=n:=⟨s.2.1.toNat,by omega⟩;intros;refine gN ?_;intros;refine gR 127 128 c209r25.eq_1 ?_;intros;refine gR 128 129 c209r26.eq_1 ?_;intros;refine dT ?_;exact eF ⟨s,p3,⟨by rw[if_pos (by omega),hs],k9,hp3⟩,⟨eE,(eJ @hp3),eE,eE⟩,rfl⟩
  ·intros;refine dT ?_;exact eF ⟨(0,(p2:Int),0),p2,⟨by rw[if_neg (by omega)],rfl,rfl⟩,⟨eE,eE,eE,eE⟩,rfl⟩
 rintro e h ⟨s,p3,⟨hs,hs0,hp3⟩,⟨e0,e5,e13,e14⟩,rfl⟩;rw[← hs]at hb4;have hb5:eX 16 l=(gQ l n0 s.1 p3 many).bind fun r=>if r.2=l.length∧wH r.1 s.1=true then some (mkB [n0,n1,n2,n3,n4,n5,n6] m r.1)else none:=by
  rw[hb4,lh,if_pos hs0,hp3];rfl
 clear hb4 hs;refine dV [0,5,13,14] ?_;refine sJ4 @e0 @e5 @e13 @e14 ?_;intros;try refine ed ?_
 refine dU (dX (L':=[.reg 4 [.int .i64 n0,.int .i64 (n0+n1),.int .i64 n2,.int .i64 n3,.int .i64 n4,.int .i64 n5,.int .i64 n6,.bool tx,.int .i64 ct,.slice none 0 0],.reg 2 [.int .i64 0,.int .i64 0,.int .i64 0,.int .i64 0,.int .i64 0,.int .i64 0,.int .i64 0,.bool false,.int .i64 0,.slice none 0 0]]) (.cons _ KJ)) ?_;refine dU (eA none 103 5) ?_
 refine eL (fun e h=>∃ (rs:List Rec) (p:Nat) (u:Value) (zc:Kt) (G':Ks),(gQ l n0 s.1 p3 many=some (rs,p)∧rs.length=many∧Gle G G'∧Cells RR 5 rs zc)∧(e 0=.slice A l.length c∧e 5=.int .i64 (p:Int)∧e 13=.int .i64 (many:Int)∧e 14=.int .i64 s.1) ∧
  h=⟨G',[.row u 103 5 rs.length zc,.reg 4 [.int .i64 n0,.int .i64 (n0+n1),.int .i64 n2,.int .i64 n3,.int .i64 n4,.int .i64 n5,.int .i64 n6,.bool tx,.int .i64 ct,u],.reg 2 [.int .i64 0,.int .i64 0,.int .i64 0,.int .i64 0,.int .i64 0,.int .i64 0,.int .i64 0,.bool false,.int .i64 0,.slice none 0 0]],[]⟩) ?_ ?_
 ·intros;refine gR 0 0 c209r27.eq_1 ?_;intros;refine dT ?_;refine ej (fun e h=>∃ (k:Nat) (rs:List Rec) (p:Nat) (u:Value) (zc:Kt) (G':Ks),(k≤many∧rs.length=k∧Gle G G'∧Cells RR 5 rs zc∧gQ l n0 s.1 p3 k=some (rs,p)) ∧
   e 0=.slice A l.length c∧e 5=.int .i64 (p:Int)∧e 13=.int .i64 (many:Int)∧e 14=.int .i64 s.1∧e 129=.int .i64 (many:Int)∧e 130=.int .i64 k∧h.G=G'∧h.D=[]∧[.row u 103 5 rs.length zc,.reg 4 [.int .i64 n0,.int .i64 (n0+n1),.int .i64 n2,.int .i64 n3,.int .i64 n4,.int .i64 n5,.int .i64 n6,.bool tx,.int .i64 ct,u],.reg 2 [.int .i64 0,.int .i64 0,.int .i64 0,.int .i64 0,.int .i64 0,.int .i64 0,.int .i64 0,.bool false,.int .i64 0,.slice none 0 0]].Sublist h.L) (fun e h=>many - iv (e 130)) ?_ ?_
  ·exact⟨0,[],p3,_,[],G,⟨Nat.zero_le _,rfl,.refl _,.nil,rfl⟩,eE,eE,eE,eE,eE,eE,rfl,rfl,List.Sublist.refl _⟩
  ·rintro e ⟨G',L,D⟩ ⟨k,rs,p,u,zc,G2,⟨hk,hrl,hgg,hcs,hrg⟩,e0,e5,e13,e14,e129,e130,hG,hD,hL⟩;dsimp only at hG hD hL;subst hG hD;refine dU (dX hL) ?_;refine dV [0,5,13,14,129,130] ?_;refine sJ6 @e0 @e5 @e13 @e14 @e129 @e130 ?_;intros;refine gR 0 0 c209r28.eq_1 ?_;intros;refine gC ?_;refine gb (fun k1=>?_) (fun k1=>?_);rotate_left
   ·have k1:k=many:=by have:=KN k1;omega
    subst k1;refine eg ?_;refine sI ?_;exact eF ⟨rs,p,u,zc,G',⟨hrg,hrl,hgg,hcs⟩,⟨eE,eE,eE,eE⟩,rfl⟩
   have k1:k < many:=by have:=KM k1;omega
   have hw:=eW k many k1 (by unfold maxLen;omega);have hrec:=zd l p n0 s.1 _ G' (SB.le hl00 hgg);have hrr:=xe l p n0 s.1;have hnxt:gQ l n0 s.1 p3 (k+1)=if (getR l p n0 s.1).2.2=0 then some (rs++[(getR l p n0 s.1).1],(getR l p n0 s.1).2.1.toNat)else none:=by
    rw[gQ,hrg];rfl
   have hnn:=xT l p n0 s.1;generalize getR l p n0 s.1=q at hrec hrr hnxt hnn;obtain⟨r,nx,er⟩:=q;dsimp only at hrr hnxt hrec hnn;unfold gT at hrec hrr;intros;refine gN ?_;intros;refine gR 132 142 c209r29.eq_1 ?_;refine(hrec _ _).mono ?_;rintro v h' ⟨rfl,rfl⟩;refine sI ?_;intros;refine gR 142 143 c209r30.eq_1 ?_;intros;refine gC ?_;refine gb (fun k2=>?_) (fun k2=>?_)
   ·have k2:=KM k2;rw[if_neg k2]at hnxt;have:=mp (many - (k+1)) (k+1) hnxt;rw[show k+1+(many - (k+1))=many by omega]at this;refine eI (eh [_] _ (by decide) hcs) ?_;rintro h' ⟨G2,rfl,hg2,hB⟩;obtain⟨B,d,rfl,-⟩:=id hB;intros;refine gR 144 145 c209r31.eq_1 ?_;intros;refine rW ?_;exact hout false hB (by rw[hb5,this];rfl)
   have k2:er=0:=by simpa using k2
   rw[if_pos k2]at hnxt;obtain⟨nx,rfl⟩:∃ n:Nat,nx=n:=⟨nx.toNat,by omega⟩;rw[Int.toNat_natCast]at hnxt;intros;refine gN ?_;intros;refine gR 146 150 c209r32.eq_1 ?_;intro bk hbk;refine xj (L1:=[_]) (L2:=[_,_]) (E:=RR) (x:=r) rfl hrr rfl (by simp[Value.oneCell']) hcs (by omega) (by omega) fun A' c' zc' hzc=>?_
   refine sI ?_;intros;refine gR 151 152 c209r33.eq_1 ?_;intros;refine gR2 152 153 c209r34.eq_1 @hw ?_;intros;refine dT ?_;refine eF ⟨⟨k+1,rs++[r],nx,_,zc',G',⟨by omega,by simp[hrl],hgg,hzc,hnxt⟩,eE,eE,eE,eE,eE,eE,rfl,rfl,.cons _ (.cons _ KJ)⟩,?_⟩;refine sI ?_;omega
 rintro e h ⟨rs,p,u,zc,G',⟨hrg,hrl,hgg,hcs⟩,⟨e0,e5,e13,e14⟩,rfl⟩;refine dV [0,5,13,14] ?_;refine sJ4 @e0 @e5 @e13 @e14 ?_;intros;refine eI (eh [] _ (by decide) hcs) ?_;rintro h' ⟨G2,rfl,hg2,hB0⟩;obtain⟨B,d,rfl,hd1,hd2,hB⟩:=id hB0;rw[hrg]at hb5;simp only[Option.bind_some,hmk]at hb5;intros;refine dT ?_;refine qe _ (.cons_cons _ (.cons _ KJ)) (by decide) ?_;refine sJ c209r35.eq_1 ?_
 refine gw (fun k1=>?_) (fun k1=>?_);rotate_left
 ·have k1:=KN k1;refine sI ?_;refine⟨ef KO (.cons_cons _ (.cons _ KJ)),?_⟩;refine sI ?_;intros;refine rW ?_;exact hout false hB0 (show eX 16 l=none by rw[hb5,if_neg (fun h=>by omega)])
 have k1:=KM k1;refine sI ?_;refine gw (fun k2=>?_) (fun k2=>?_)
 ·have k2:=KM k2;have hrs:rs=[]:=List.eq_nil_of_length_eq_zero (by omega);subst hrs;refine sI ?_;refine⟨ef KO (.cons_cons _ (.cons _ KJ)),?_⟩;refine sI ?_;intros;refine rW ?_;exact hout true hB0 (show eX 16 l=some _ by rw[hb5,if_pos ⟨by omega,rfl⟩])
 have k2:=KN k2;obtain⟨r0,h0⟩:∃ r,rs[0]?=some r:=⟨rs[0]'(by omega),getElem?_eq_getElem _⟩;have hso:wH rs s.1=decide (r0.stamp=s.1):=by
  match rs,h0 with
  | x :: xs,h0=>cases h0;rfl
 refine sI ?_;refine hB.y_lf h0 rfl rfl (fun cs h=>by rw[h.1];rfl) fun a ha=>?_
 refine sI ?_;refine⟨ef KO (.cons_cons _ (.cons _ KJ)),?_⟩;refine sI ?_;intros;refine rW ?_;refine hout _ hB0 ?_;by_cases h:r0.stamp=s.1
 ·rw[if_pos (decide_eq_true h),hb5,if_pos ⟨by omega,by rw[hso,decide_eq_true h]⟩]
 ·rw[if_neg (by simpa using h),hb5,if_neg (fun hc=>by rw[hso]at hc;simp[h]at hc)]
theorem F178:Fun Tryz.prog 178 68 v178 c178 o178:=Fun.mkA Tryz.func178 Tryz.ntmps178
theorem F195:Fun Tryz.prog 195 68 v195 c195 o195:=Fun.mkA Tryz.func195 Tryz.ntmps195
def jA:Batch:=⟨0,0,0,0,0,0,0,false,0,[]⟩
def rL(w:Int)(l:KD):Option Batch:=(eX w l).bind fun x=>if fM x=0 then some x else none
def getB(l:KD)(a:Int):Batch × Int × Int :=
 if (ix l a 4).2=0 then
  if 5≤(ix l a 4).1∧(ix l a 4).1≤2044 then
   if (ix l a 4).1≤(l.drop (a.toNat+4)).length then
    if (ii ((l.drop (a.toNat+4)).take (ix l a 4).1)).2=0 then
     match rL 15 (ii ((l.drop (a.toNat+4)).take (ix l a 4).1)).1 with
     | none=>(jA,0,11)
     | some x=>(x,((a.toNat+4+(ix l a 4).1:Nat):Int),0)
    else(jA,0,(ii ((l.drop (a.toNat+4)).take (ix l a 4).1)).2)
   else(jA,0,10)
  else(jA,0,11)
 else(jA,0,(ix l a 4).2)
def qW(l:KD)(a:Int)(G:Ks)(r:Value):Prop:=∃ cs,r=.tuple #[.agg cs.toArray,.int .i64 (getB l a).2.1,.int .i64 (getB l a).2.2]∧BE G (getB l a).1 cs
theorem rY{l:KD}{a:Int}{k:Nat}(h:(ix l a k).2=0):0≤a∧a.toNat+k≤l.length∨(k=0):=by
 unfold ix at h;split at h
 ·cases h
 ·split at h
  ·cases h
  ·rename_i h1 h2;by_cases hk:k=0
   ·exact .inr hk
   ·left;simp at h2;omega
theorem xy{l:KD}{a:Int}:(ix l a 4).1 < 4294967296:=by
 unfold ix;split
 ·decide
 ·split
  ·decide
  ·have:=vz ((l.drop a.toNat).take 4);have h2:256 ^ ((l.drop a.toNat).take 4).length≤256 ^ 4:=Nat.pow_le_pow_right (by decide) (by simp;omega);omega
theorem rp(l:KD):(ii l).1.length≤l.length:=by
 unfold ii;split
 ·simp
 ·split
  ·simp
  ·simp
theorem vC{x:Batch}(h:¬ x.last - x.base < 16):fM x≠0:=by
 rw[xc fun hf=>h hf.2.2.1.2.1];decide
theorem uX{l:KD}{ns:KG}{m:UInt8}(h:∀ rs,fM (mkB ns m rs)≠0)(many:Nat)(s:Int × Int × Int):((lh l ns m many s).bind fun x=>if fM x=0 then some x else none)=none:=by
 unfold lh;split
 ·cases gQ l (ns.getD 0 0) s.1 s.2.1.toNat many with
  | none=>rfl
  | some r =>
   simp only[Option.bind_some];split
   ·simp only[Option.bind_some];exact if_neg (h _)
   ·rfl
 ·rfl
theorem uR{l:KD}{ns:KG}{m:UInt8}(h:∀ rs,fM (mkB ns m rs)≠0)(v:Int × Int × Int):((kp l ns m v).bind fun x=>if fM x=0 then some x else none)=none:=by
 unfold kp;split
 ·exact uX h _ _
 ·rfl
theorem DQ(l:KD):rL 16 l=rL 15 l:=by
 unfold rL eX;cases mT l 7 with
 | none=>rfl
 | some q =>
  simp only[Option.bind_some];unfold kt;cases l[q.2]? with
  | none=>rfl
  | some m =>
   simp only[Option.bind_some];by_cases h15:m.toNat < 8∧(0≤q.1.getD 0 0∧q.1.getD 0 0≤1099511627776)∧(0≤q.1.getD 1 0∧q.1.getD 1 0≤15)
   ·rw[if_pos h15,if_pos ⟨h15.1,h15.2.1,by omega,by omega⟩]
   ·rw[if_neg h15];by_cases h16:m.toNat < 8∧(0≤q.1.getD 0 0∧q.1.getD 0 0≤1099511627776)∧(0≤q.1.getD 1 0∧q.1.getD 1 0≤16)
    ·rw[if_pos h16];have hs:q.1.getD 1 0=16:=by
      rcases Int.lt_or_le (q.1.getD 1 0) 16 with h | h
      ·exact absurd ⟨h16.1,h16.2.1,h16.2.2.1,by omega⟩ h15
      ·omega
     have key:∀ rs,fM (mkB q.1 m rs)≠0:=fun rs=>vC (by
      show ¬ q.1.getD 0 0+q.1.getD 1 0 - q.1.getD 0 0 < 16
      omega)
     exact uR key _
    ·rw[if_neg h16]
theorem oa{w:Int}{l:KD}{x:Batch}(h:eX w l=some x)(h0:fM x=0):rL w l=some x:=by rw[rL,h];exact if_pos h0
theorem tB{w:Int}{l:KD}{x:Batch}(h:eX w l=some x)(h0:¬ fM x=0):rL w l=none:=by rw[rL,h];exact if_neg h0
theorem qo{w:Int}{l:KD}(h:eX w l=none):rL w l=none:=by rw[rL,h];rfl
set_option maxHeartbeats 2000000 in
theorem CL(l:KD)(a:Int)(v:Value)(G:Ks)(hl:SB G v l)(hb:l.length≤1000000):FnD Tryz.prog 178 #[v,.int .i64 a] G (qW l a):=by
 have hl0:=hl;obtain⟨A,c,rfl,hc,hm,hA⟩:=hl;unfold maxLen at hm;refine F178.fnD (by simp) (dY ?_);unfold c178;have hng:=xQ l a 4 (by omega) _ G hl0;have hnk:=@rY l a 4;have hnl:=@xy l a;intros;refine gR 0 0 c178r0.eq_1 ?_;intros;refine gR 11 17 c178r1.eq_1 ?_;refine fK (hng _ _) ?_;intros;refine gR 17 18 c178r2.eq_1 ?_;intros;refine gC ?_;refine gb (fun k1=>?_) (fun k1=>?_)
 ·have k1:=KM k1;intros;refine gR 19 21 c178r3.eq_1 ?_;intros;refine rW ?_;have hg:getB l a=(jA,0,(ix l a 4).2):=by rw[getB,if_neg k1]
  exact⟨_,by rw[hg],by rw[hg];exact BE.zero⟩
 have k1:(ix l a 4).2=0:=by simpa using k1
 obtain⟨ha,hal⟩:=(hnk k1).resolve_right (by decide);obtain⟨a,rfl⟩:∃ n:Nat,a=n:=⟨a.toNat,by omega⟩;rw[Int.toNat_natCast]at hal;have hg:getB l (a:Int)=if 5≤(ix l a 4).1∧(ix l a 4).1≤2044 then
   if (ix l a 4).1≤(l.drop (a+4)).length then
    if (ii ((l.drop (a+4)).take (ix l a 4).1)).2=0 then
     match rL 15 (ii ((l.drop (a+4)).take (ix l a 4).1)).1 with
     | none=>(jA,(0:Int),(11:Int))
     | some x=>(x,((a+4+(ix l a 4).1:Nat):Int),(0:Int))
    else(jA,(0:Int),(ii ((l.drop (a+4)).take (ix l a 4).1)).2)
   else(jA,(0:Int),(10:Int))
  else(jA,(0:Int),(11:Int)):=by rw[getB,if_pos k1];rfl
 generalize (ix l a 4).1=n at hg hnl;have hbad:¬ (5≤n∧n≤2044)→∀ (fr:KA) (e:Env),go none Tryz.prog 68 v178.1 v178.2 (fI o178 fun v h=>qW l a h.G v) (Td.s ((SC.reg false c178r5).seq .ret) :: fr) e ⟨G,[.reg 4 [.int .i64 0,.int .i64 0,.int .i64 0,.int .i64 0,.int .i64 0,.int .i64 0,.int .i64 0,.bool false,.int .i64 0,.slice none 0 0]],[]⟩:=fun hx fr e=>by
  rw[if_neg hx]at hg;intros;refine gR 27 28 c178r5.eq_1 ?_;intros;refine rW ?_;exact⟨_,by rw[hg],by rw[hg];exact BE.zero⟩
 intros;refine gN ?_;intros;refine gR 21 26 c178r4.eq_1 ?_;refine gdD (fun k2=>?_) (fun k2=>?_)
 ·refine sI ?_;intros;refine gC ?_;exact hbad (by omega) _ _
 refine sI ?_;intros;refine gC ?_;refine gbD (fun k3=>?_) (fun k3=>?_)
 ·exact hbad (by omega) _ _
 clear hbad;rw[if_pos ⟨by omega,by omega⟩]at hg;have w4:IntKind.i64.wrap ((a:Int)+4)=((a+4:Nat):Int):=by rw[ei] <;> omega
 intros;refine gN ?_;intros;refine gR2 28 32 c178r6.eq_1 @w4 ?_;refine uE (a+4) l.length c hl0 rfl rfl rfl (by omega) fun B hB=>?_
 rw[take_length]at hB ⊢;have hrl:(l.drop (a+4)).length=l.length - (a+4):=by simp
 generalize l.drop (a+4)=rest at hB hg hrl ⊢;refine sI ?_;have hcv:IntKind.u64.wrap (rest.length:Int)=(rest.length:Int):=lE (by omega);intros;refine gR2 32 36 c178r7.eq_1 @hcv ?_;intros;refine gC ?_;refine gbD (fun k4=>?_) (fun k4=>?_)
 ·rw[if_neg (by omega)]at hg;intros;refine gR 37 38 c178r8.eq_1 ?_;intros;refine rW ?_;exact⟨_,by rw[hg],by rw[hg];exact BE.zero⟩
 rw[if_pos (by omega)]at hg;have hpre:=SlV.pre n hB (by omega);have hop:=DO (rest.take n) _ G hpre (by simp;omega);have hol:=rp (rest.take n);have hrn:(rest.take n).length≤2044:=by simp;omega
 generalize ii (rest.take n)=o at hop hg hol;intros;refine gN ?_;intros;refine gR 38 45 c178r9.eq_1 ?_;refine⟨by omega,?_⟩;refine(hop _ []).mono ?_;rintro r h' ⟨G1,L',rfl,hg1,u,rfl,ys,hys,rfl⟩;refine sI ?_;intros;try refine ed ?_
 refine eI (eh [] _ (by decide) hys) ?_;rintro h' ⟨G2,rfl,hg2,hv2⟩;intros;refine gR 45 46 c178r10.eq_1 ?_;intros;refine gC ?_;refine gb (fun k5=>?_) (fun k5=>?_)
 ·have k5:=KM k5;rw[if_neg k5]at hg;intros;refine gR 47 49 c178r11.eq_1 ?_;intros;refine rW ?_;exact⟨_,by rw[hg],by rw[hg];exact BE.zero⟩
 have k5:o.2=0:=by simpa using k5
 rw[if_pos k5]at hg;intros;refine gN ?_;intros;refine gR 49 54 c178r12.eq_1 ?_;refine(Aw o.1 u G2 hv2 (by omega) _ []).mono ?_;rintro r h' ⟨G3,rfl,hg3,x,cs,ok,rfl,hbe,hpo⟩;have hck:=lX x cs G3 hbe;have hbe0:=hbe;obtain⟨B',d',rfl,-⟩:=hbe;unfold fu at hck;unfold fu;refine sI ?_
 have hbad:rL 15 o.1=none→∀ (fr:KA) (e:Env),go none Tryz.prog 68 v178.1 v178.2 (fI o178 fun v h=>qW l a h.G v) (Td.s ((SC.reg false c178r14).seq .ret) :: fr) e ⟨G3,[.reg 4 (fu x (.slice B' x.recs.length d'))],[]⟩:=fun hx fr e=>by
  rw[hx]at hg;dsimp only at hg;unfold fu;intros;refine gR 61 62 c178r14.eq_1 ?_;intros;refine rW ?_;exact⟨_,by rw[hg],by rw[hg];exact BE.zero⟩
 unfold fu at hbad;intros;refine gR 54 60 c178r13.eq_1 ?_;refine gd (fun k6=>?_) (fun k6=>?_)
 ·have k6:ok=false:=by simpa using k6
  subst k6;refine sI ?_;intros;refine gC ?_;exact hbad (qo hpo) _ _
 have k6:ok=true:=by simpa using k6
 subst k6;refine sI ?_;refine fK (hck _ _) ?_;intros;refine gC ?_;refine gb (fun k7=>?_) (fun k7=>?_)
 ·have k7:=KM k7;exact hbad (tB hpo k7) _ _
 have k7:fM x=0:=by simpa using k7
 clear hbad;rw[oa hpo k7]at hg;dsimp only at hg;have hcn:IntKind.i64.wrap (n:Int)=(n:Int):=by rw[ei] <;> omega
 have hw5:IntKind.i64.wrap (((a+4:Nat):Int)+n)=((a+4+n:Nat):Int):=by rw[ei] <;> omega
 generalize a+4+n=nx at hg hw5;generalize a+4=a4 at w4 hw5;intros;refine gN ?_;intros;refine gr 62 68 ?_;refine sJ4 c178r15.eq_1 @w4 @hcn @hw5 ?_;intros;refine rW ?_;exact⟨_,by rw[hg],by rw[hg];exact hbe0⟩
set_option maxHeartbeats 2000000 in
theorem yu(l:KD)(a:Int)(v:Value)(G:Ks)(hl:SB G v l)(hb:l.length≤1000000∨a≤4611686018427387904):FnD Tryz.prog 195 #[v,.int .i64 a] G (qW l a):=by
 have hl0:=hl;obtain⟨A,c,rfl,hc,hm,hA⟩:=hl;unfold maxLen at hm;refine F195.fnD (by simp) (dY ?_);unfold c195;have hng:=tG l a 4 (by omega) _ G hl0;have hnk:=@rY l a 4;have hnl:=@xy l a;intros;refine gR 0 0 c195r0.eq_1 ?_;intros;refine gR 13 19 c195r1.eq_1 ?_;refine fK (hng _ _) ?_;intros;refine gR 19 20 c195r2.eq_1 ?_;intros;refine gC ?_;refine gb (fun k1=>?_) (fun k1=>?_)
 ·have k1:=KM k1;intros;refine gR 21 23 c195r3.eq_1 ?_;intros;refine rW ?_;have hg:getB l a=(jA,0,(ix l a 4).2):=by rw[getB,if_neg k1]
  exact⟨_,by rw[hg],by rw[hg];exact BE.zero⟩
 have k1:(ix l a 4).2=0:=by simpa using k1
 obtain⟨ha,hal⟩:=(hnk k1).resolve_right (by decide);obtain⟨a,rfl⟩:∃ n:Nat,a=n:=⟨a.toNat,by omega⟩;rw[Int.toNat_natCast]at hal;have hg:getB l (a:Int)=if 5≤(ix l a 4).1∧(ix l a 4).1≤2044 then
   if (ix l a 4).1≤(l.drop (a+4)).length then
    if (ii ((l.drop (a+4)).take (ix l a 4).1)).2=0 then
     match rL 15 (ii ((l.drop (a+4)).take (ix l a 4).1)).1 with
     | none=>(jA,(0:Int),(11:Int))
     | some x=>(x,((a+4+(ix l a 4).1:Nat):Int),(0:Int))
    else(jA,(0:Int),(ii ((l.drop (a+4)).take (ix l a 4).1)).2)
   else(jA,(0:Int),(10:Int))
  else(jA,(0:Int),(11:Int)):=by rw[getB,if_pos k1];rfl
 generalize (ix l a 4).1=n at hg hnl;have hbad:¬ (5≤n∧n≤2044)→∀ (fr:KA) (e:Env),go none Tryz.prog 68 v195.1 v195.2 (fI o195 fun v h=>qW l a h.G v) (Td.s ((SC.reg false c195r5).seq .ret) :: fr) e ⟨G,[.reg 4 [.int .i64 0,.int .i64 0,.int .i64 0,.int .i64 0,.int .i64 0,.int .i64 0,.int .i64 0,.bool false,.int .i64 0,.slice none 0 0]],[]⟩:=fun hx fr e=>by
  rw[if_neg hx]at hg;intros;refine gR 29 30 c195r5.eq_1 ?_;intros;refine rW ?_;exact⟨_,by rw[hg],by rw[hg];exact BE.zero⟩
 intros;refine gN ?_;intros;refine gR 23 28 c195r4.eq_1 ?_;refine gdD (fun k2=>?_) (fun k2=>?_)
 ·refine sI ?_;intros;refine gC ?_;exact hbad (by omega) _ _
 refine sI ?_;intros;refine gC ?_;refine gbD (fun k3=>?_) (fun k3=>?_)
 ·exact hbad (by omega) _ _
 clear hbad;rw[if_pos ⟨by omega,by omega⟩]at hg;have w4:IntKind.i64.wrap ((a:Int)+4)=((a+4:Nat):Int):=by rw[ei] <;> omega
 have hcn:IntKind.i64.wrap (n:Int)=(n:Int):=by rw[ei] <;> omega
 have hw5:IntKind.i64.wrap (((a+4:Nat):Int)+n)=((a+4+n:Nat):Int):=by rw[ei] <;> omega
 obtain⟨a4,ha4⟩:∃ a4,a4=a+4:=⟨_,rfl⟩;rw[← ha4]at w4 hw5 hg hal;obtain⟨nx,hnx⟩:∃ nx,nx=a4+n:=⟨_,rfl⟩;rw[← hnx]at hw5 hg;intros;refine gN ?_;intros;refine gr 30 35 ?_;refine sJ4 c195r6.eq_1 @w4 @hcn @hw5 ?_;intros;refine gR 35 38 c195r7.eq_1 ?_;have hrl:(l.drop a4).length=l.length - a4:=by simp
 intros;refine gC ?_;refine gbD (fun k4=>?_) (fun k4=>?_)
 ·rw[if_neg (by omega)]at hg;intros;refine gR 39 40 c195r8.eq_1 ?_;intros;refine rW ?_;exact⟨_,by rw[hg],by rw[hg];exact BE.zero⟩
 rw[if_pos (by omega)]at hg;have hsub:(l.take nx).drop a4=(l.drop a4).take n:=by rw[List.drop_take,hnx,Nat.add_sub_cancel_left]
 intros;refine gN ?_;intros;refine gR2 40 49 c195r9.eq_1 @w4 ?_;refine uE a4 nx c hl0 rfl rfl rfl (by omega) fun B hB=>?_
 rw[hsub]at hB ⊢;have hrn:((l.drop a4).take n).length≤2044:=by simp;omega
 have hop:=AO ((l.drop a4).take n) _ G hB (by omega);have hol:=rp ((l.drop a4).take n);generalize ii ((l.drop a4).take n)=o at hop hg hol;refine sI ?_;refine(hop _ []).mono ?_;rintro r h' ⟨G1,L',rfl,hg1,u,rfl,ys,hys,rfl⟩;refine sI ?_;intros;try refine ed ?_
 refine eI (eh [] _ (by decide) hys) ?_;rintro h' ⟨G2,rfl,hg2,hv2⟩;intros;refine gR 49 50 c195r10.eq_1 ?_;intros;refine gC ?_;refine gb (fun k5=>?_) (fun k5=>?_)
 ·have k5:=KM k5;rw[if_neg k5]at hg;intros;refine gR 51 53 c195r11.eq_1 ?_;intros;refine rW ?_;exact⟨_,by rw[hg],by rw[hg];exact BE.zero⟩
 have k5:o.2=0:=by simpa using k5
 rw[if_pos k5,← DQ]at hg;intros;refine gN ?_;intros;refine gR 53 58 c195r12.eq_1 ?_;refine(Eg o.1 u G2 hv2 (by omega) _ []).mono ?_;rintro r h' ⟨G3,rfl,hg3,x,cs,ok,rfl,hbe,hpo⟩;have hck:=uL x cs G3 hbe;have hbe0:=hbe;obtain⟨B',d',rfl,-⟩:=hbe;unfold fu at hck;unfold fu;refine sI ?_
 have hbad:rL 16 o.1=none→∀ (fr:KA) (e:Env),go none Tryz.prog 68 v195.1 v195.2 (fI o195 fun v h=>qW l a h.G v) (Td.s ((SC.reg false c195r14).seq .ret) :: fr) e ⟨G3,[.reg 11 (fu x (.slice B' x.recs.length d')),.reg 4 [.int .i64 0,.int .i64 0,.int .i64 0,.int .i64 0,.int .i64 0,.int .i64 0,.int .i64 0,.bool false,.int .i64 0,.slice none 0 0]],[]⟩:=fun hx fr e=>by
  rw[hx]at hg;dsimp only at hg;unfold fu;intros;refine gR 65 66 c195r14.eq_1 ?_;intros;refine rW ?_;exact⟨_,by rw[hg],by rw[hg];exact BE.zero⟩
 unfold fu at hbad;intros;refine gR 58 64 c195r13.eq_1 ?_;refine gd (fun k6=>?_) (fun k6=>?_)
 ·have k6:ok=false:=by simpa using k6
  subst k6;refine sI ?_;intros;refine gC ?_;exact hbad (qo hpo) _ _
 have k6:ok=true:=by simpa using k6
 subst k6;refine sI ?_;refine fK (hck _ _) ?_;intros;refine gC ?_;refine gb (fun k7=>?_) (fun k7=>?_)
 ·have k7:=KM k7;exact hbad (tB hpo k7) _ _
 have k7:fM x=0:=by simpa using k7
 clear hbad;rw[oa hpo k7]at hg;dsimp only at hg;intros;refine gN ?_;intros;refine gR 66 68 c195r15.eq_1 ?_;intros;refine rW ?_;exact⟨_,by rw[hg],by rw[hg];exact hbe0⟩
theorem uG{y:Nat}(h:y < 256):(UInt8.ofNat y).toNat=y:=by simp;omega
theorem Fq(x:UInt8):UInt8.ofNat x.toNat=x:=by simp
theorem t9:∀ (f i z y:Nat) (q:KD),i+f=9→y < 2 * 128 ^ f→(0 < i→0 < y)→gvL i z (pk f y++q)=(0,z+128 ^ i * y,i+(pk f y).length)
 | 0,i,z,y,q,hi,hy,h0=>by
  have hx:(UInt8.ofNat y).toNat=y:=uG (by simp at hy;omega);simp at hy;simp only[pk,List.cons_append,List.nil_append];rw[mB (by rw[hx];omega) (by rw[hx];omega),hx,Nat.mod_eq_of_lt (by omega)];rfl
 | f+1,i,z,y,q,hi,hy,h0=>by
  unfold pk;split
  ·rename_i hlt;have hx:(UInt8.ofNat y).toNat=y:=uG (by omega);simp only[List.cons_append,List.nil_append];rw[mB (by rw[hx];omega) (by rw[hx];omega),hx,Nat.mod_eq_of_lt (by omega)];rfl
  ·rename_i hge;have hx:(UInt8.ofNat (128+y % 128)).toNat=128+y % 128:=uG (by omega);simp only[List.cons_append];rw[lU (by rw[hx];omega) (by rw[hx];omega),hx];rw[Nat.pow_succ]at hy;rw[t9 f (i+1) _ (y / 128) q (by omega) (by omega) (by omega)];have e1:(128+y % 128) % 128=y % 128:=by omega
   have e2:128 ^ (i+1) * (y / 128)=128 ^ i * (128 * (y / 128)):=by rw[Nat.pow_succ,Nat.mul_assoc]
   rw[e1,e2,Nat.add_assoc,← Nat.mul_add,show y % 128+128 * (y / 128)=y by omega];simp;omega
theorem t6:∀ (m:KD) (i z:Nat),i≤9→(gvL i z m).1=0→∃ y rest,m=pk (9 - i) y++rest∧(gvL i z m).2.1=z+128 ^ i * y∧(gvL i z m).2.2=i+(pk (9 - i) y).length∧(0 < i→0 < y)∧y < 2 * 128 ^ (9 - i)
 | [],i,z,_,h=>by simp[gvL]at h
 | x :: xs,i,z,hi,h=>by
  have hxl:=x.toNat_lt;by_cases h1:(i=9∧1 < x.toNat)∨(0 < i∧x.toNat=0)
  ·rw[pM h1]at h;cases h
  ·by_cases h2:x.toNat < 128
   ·rw[mB h1 h2];refine⟨x.toNat,xs,?_,by rw[Nat.mod_eq_of_lt h2],?_,by omega,?_⟩
    ·rw[sr h2,Fq];rfl
    ·rw[sr h2];rfl
    ·by_cases h9:i=9
     ·subst h9;simp;omega
     ·have:128 ^ 1≤128 ^ (9 - i):=Nat.pow_le_pow_right (by decide) (by omega);omega
   ·have hi8:i≤8:=by omega
    rw[lU h1 h2]at h ⊢;obtain⟨y,rest,e1,e2,e3,e4,e5⟩:=t6 xs (i+1) _ (by omega) h;have hy:=e4 (by omega);refine⟨(x.toNat - 128)+128 * y,rest,?_,?_,?_,by omega,?_⟩
    ·rw[show 9 - i=9 - (i+1)+1 by omega,pk,if_neg (by omega),show 128+(x.toNat - 128+128 * y) % 128=x.toNat by omega,Fq,show(x.toNat - 128+128 * y) / 128=y by omega,List.cons_append,← e1]
    ·rw[e2,Nat.pow_succ,Nat.add_assoc];congr 1;rw[show x.toNat % 128=x.toNat - 128 by omega,Nat.mul_assoc,← Nat.mul_add]
    ·rw[e3,show 9 - i=9 - (i+1)+1 by omega,pk,if_neg (by omega),show(x.toNat - 128+128 * y) / 128=y by omega,List.length_cons];omega
    ·rw[show 9 - i=9 - (i+1)+1 by omega,Nat.pow_succ];omega
theorem DU{n:Int}(h:I64 n):zag (zig n)=n:=by
 unfold zag zig I64 at *;split <;> split <;> omega
theorem wZ(z:Nat):zig (zag z)=z:=by
 unfold zag zig;split <;> split <;> omega
theorem xa{l:KD}{a:Nat}:fH l (a:Int)=if (gvL 0 0 (l.drop a)).1=0 then(zag (gvL 0 0 (l.drop a)).2.1,(a:Int)+(gvL 0 0 (l.drop a)).2.2,0)else(0,0,(gvL 0 0 (l.drop a)).1):=by
 rw[fH,if_neg (by omega)];rfl
theorem mn{l:KD}{a:Nat}{n:Int}{q:KD}(hn:I64 n)(h:l.drop a=pvB n++q):fH l (a:Int)=(n,((a+(pvB n).length:Nat):Int),0):=by
 have hz:=qC hn;rw[xa,h,pvB,t9 9 0 0 (zig n) q rfl (by omega) (by omega)];simp only[if_true,Nat.zero_add,Nat.pow_zero,Nat.one_mul,DU hn];rfl
theorem jy{l:KD}{a:Nat}(h:(fH l (a:Int)).2.2=0):∃ q,l.drop a=pvB (fH l (a:Int)).1++q∧(fH l (a:Int)).2.1=((a+(pvB (fH l (a:Int)).1).length:Nat):Int)∧I64 (fH l (a:Int)).1:=by
 obtain⟨_,_,_,_,_,hi⟩:=jW h;rw[xa]at h hi ⊢;split at h
 ·rename_i h0;rw[if_pos h0]at hi ⊢;obtain⟨y,rest,e1,e2,e3,_,e5⟩:=t6 _ 0 0 (by omega) h0;simp only[Nat.zero_add,Nat.pow_zero,Nat.one_mul,Nat.sub_zero]at e1 e2 e3;dsimp only at hi ⊢;rw[e2]at hi ⊢;refine⟨rest,?_,?_,hi⟩
  ·rw[pvB,wZ];exact e1
  ·rw[pvB,wZ,e3];rfl
 ·rename_i h0;exact absurd h h0
theorem yv(n:Int):0 < (pvB n).length:=(pD 9 _).2
theorem wC{l:KD}{a:Nat}{s:ByteArray}{q:KD}(hs:s.size≤64)(h:l.drop a=ptB s++q):kK l (a:Int) 64=(s,((a+(ptB s).length:Nat):Int),0):=by
 have hv:=mn (l:=l) (a:=a) (n:=s.size) (q:=s.data.toList++q) (by unfold I64;omega) (by rw[h,ptB,List.append_assoc]);have hd:l.drop (a+(pvB s.size).length)=s.data.toList++q:=by rw[← List.drop_drop,h,ptB,List.append_assoc,List.drop_left]
 have hl:s.data.toList.length=s.size:=rfl;have hlen:a+(pvB s.size).length+s.size≤l.length:=by
  have:=congrArg List.length hd;simp at this;have h2:=yv s.size;have h3:=congrArg List.length h;simp[ptB]at h3;omega
 rw[kK,hv];dsimp only;rw[if_pos rfl,if_neg (by omega),if_neg (by omega),if_neg (by omega)];simp only[Int.toNat_natCast];have e1:(l.take (a+(pvB s.size).length+s.size)).drop (a+(pvB s.size).length)=s.data.toList:=by
  rw[List.drop_take,Nat.add_sub_cancel_left,hd,List.take_left' hl]
 rw[e1];refine Prod.ext rfl (Prod.ext ?_ rfl);simp only[ptB,length_append,hl];omega
theorem qN{l:KD}{a:Nat}(h:(kK l (a:Int) 64).2.2=0):∃ q,l.drop a=ptB (kK l (a:Int) 64).1++q∧(kK l (a:Int) 64).2.1=((a+(ptB (kK l (a:Int) 64).1).length:Nat):Int)∧(kK l (a:Int) 64).1.size≤64:=by
 have hb:=@jy l a;have hk:=@jW l a;unfold kK at h ⊢;split at h
 ·rename_i h0;obtain⟨q,e1,e2,e3⟩:=hb h0;obtain⟨k,_,e4,_,e5,_⟩:=hk h0;rw[Int.toNat_natCast]at e4 e5;rw[if_pos h0];split at h
  ·cases h
  ·rename_i h1;split at h
   ·cases h
   ·rename_i h2;split at h
    ·cases h
    ·rename_i h3;rw[if_neg h1,if_neg h2,if_neg h3];generalize fH l (a:Int)=v at *;obtain⟨n,nx,er⟩:=v;dsimp only at *;obtain⟨n,rfl⟩:∃ m:Nat,n=m:=⟨n.toNat,by omega⟩;have hk2:k=(pvB n).length:=by omega
     subst hk2;subst e4;simp only[Int.toNat_natCast];have hd:l.drop (a+(pvB n).length)=q:=by rw[← List.drop_drop,e1,List.drop_left]
     have hql:n≤q.length:=by rw[← hd];simp;omega
     have e6:(l.take (a+(pvB n).length+n)).drop (a+(pvB n).length)=q.take n:=by rw[List.drop_take,Nat.add_sub_cancel_left,hd]
     rw[e6];have hsz:(ByteArray.mk (q.take n).toArray).size=n:=by
      show(q.take n).toArray.size=n;simp;omega
     refine⟨q.drop n,?_,?_,by rw[hsz];omega⟩
     ·rw[ptB,hsz,List.append_assoc,e1];simp
     ·rw[ptB,length_append,hsz];simp;omega
 ·rename_i h0;exact absurd h h0
theorem JB{l:KD}{a:Nat}{x:UInt8}{q:KD}(h:l.drop a=x :: q):l[a]?=some x:=by
 have:=List.getElem?_drop (xs:=l) (i:=a) (j:=0);rw[Nat.add_zero,h]at this;exact this.symm
theorem BA{l:KD}{a:Nat}{x:UInt8}(h:l[a]?=some x):l.drop a=x :: l.drop (a+1):=by
 have h2:=List.getElem?_eq_some_iff.1 h;rw[List.drop_eq_getElem_cons h2.1,h2.2]
theorem fE{l p q:KD}{a:Nat}(h:l.drop a=p++q):l.drop (a+p.length)=q:=by rw[← List.drop_drop,h,List.drop_left]
theorem iw{n:Int}:inO n=true↔0≤n∧n≤1099511627776:=by simp[inO]
theorem C3{l:KD}{a:Nat}{r:Rec}{base stamp:Int}{q:KD}(hb:inO base=true)(hs:inO stamp=true)(hc:kb r=0)(h:l.drop a=prB r base stamp++q):getR l (a:Int) base stamp=(r,((a+(prB r base stamp).length:Nat):Int),0):=by
 obtain⟨⟨c1,c2⟩,c3,c4⟩:=fQ hc;have hb':=iw.1 hb;have hs':=iw.1 hs;have c1':=iw.1 c1;have c2':=iw.1 c2;have h1:l.drop a=pvB (r.off - base)++(pvB (r.stamp - stamp)++((if r.dead=true then 1 else 0) :: (ptB r.key++(ptB r.val++q)))):=by rw[h,prB];simp
 have h2:=fE h1;have h3:=fE h2;have h4:l.drop (a+(pvB (r.off - base)).length+(pvB (r.stamp - stamp)).length+1)=ptB r.key++(ptB r.val++q):=by
  have:=fE (p:=[if r.dead=true then 1 else 0]) h3;exact this
 have h5:=fE h4;have v1:=mn (show I64 (r.off - base)by unfold I64;omega) h1;have v2:=mn (show I64 (r.stamp - stamp)by unfold I64;omega) h2;have v4:=wC c3 h4;have v5:=wC c4 h5;have v3:qE l (a+(pvB (r.off - base)).length+(pvB (r.stamp - stamp)).length)=(r.dead,((a+(pvB (r.off - base)).length+(pvB (r.stamp - stamp)).length+1:Nat):Int),0):=by
  rw[qE,JB h3];cases r.dead <;> simp
 have e1:g1 l a=(r.off - base,((a+(pvB (r.off - base)).length:Nat):Int),0):=by rw[CP,v1]
 have e2:g2 l a=(r.stamp - stamp,((a+(pvB (r.off - base)).length+(pvB (r.stamp - stamp)).length:Nat):Int),0):=by rw[g2,e1,rx rfl,v2]
 have e3:g3 l a=(r.dead,((a+(pvB (r.off - base)).length+(pvB (r.stamp - stamp)).length+1:Nat):Int),0):=by rw[g3,e2,rx rfl,Int.toNat_natCast,v3]
 have e4:g4 l a=(r.key,((a+(pvB (r.off - base)).length+(pvB (r.stamp - stamp)).length+1+(ptB r.key).length:Nat):Int),0):=by rw[g4,e3,rx rfl,v4]
 have e5:g5 l a=(r.val,((a+(pvB (r.off - base)).length+(pvB (r.stamp - stamp)).length+1+(ptB r.key).length+(ptB r.val).length:Nat):Int),0):=by rw[g5,e4,rx rfl,v5]
 have er:sg l a base stamp=r:=by
  rw[sg,e1,e2,e3,e4,e5];have b1:bes base (r.off - base)=r.off:=by rw[bes,if_neg (by omega)];omega
  have b2:bes stamp (r.stamp - stamp)=r.stamp:=by rw[bes,if_neg (by omega)];omega
  dsimp only;rw[b1,b2]
 have hal:a≤l.length:=by
  have h6:=congrArg List.length h1;have:=yv (r.off - base);simp at h6;omega
 rw[pU ⟨hb,hs,by omega,by omega⟩,e5];dsimp only;rw[if_pos rfl,er,if_pos hc];refine Prod.ext rfl (Prod.ext ?_ rfl);dsimp only;simp only[prB,length_append,List.length_cons,List.length_nil];omega
theorem wM{l:KD}{a:Nat}{base stamp:Int}(h:(getR l (a:Int) base stamp).2.2=0):∃ q,l.drop a=prB (getR l (a:Int) base stamp).1 base stamp++q∧(getR l (a:Int) base stamp).2.1=((a+(prB (getR l (a:Int) base stamp).1 base stamp).length:Nat):Int)∧kb (getR l (a:Int) base stamp).1=0:=by
 by_cases hin:inO base=true∧inO stamp=true∧0≤(a:Int)∧(a:Int)≤l.length;rotate_left
 ·rw[getR,if_neg hin]at h;cases h
 have k5:(g5 l a).2.2=0:=by
  rcases Int.lt_or_le 0 0 with hh | _
  ·omega
  ·by_cases hh:(g5 l a).2.2=0
   ·exact hh
   ·rw[xJ hin hh]at h;exact absurd h hh
 have k4:(g4 l a).2.2=0:=by
  by_cases hh:(g4 l a).2.2=0
  ·exact hh
  ·rw[v8 hin hh]at h;exact absurd h hh
 have k3:(g3 l a).2.2=0:=by
  by_cases hh:(g3 l a).2.2=0
  ·exact hh
  ·rw[tK hin hh]at h;exact absurd h hh
 have k2:(g2 l a).2.2=0:=by
  by_cases hh:(g2 l a).2.2=0
  ·exact hh
  ·rw[vq hin hh]at h;exact absurd h hh
 have k1:(g1 l a).2.2=0:=by
  by_cases hh:(g1 l a).2.2=0
  ·exact hh
  ·rw[BH hin hh]at h;exact absurd h hh
 rw[pU hin,if_pos k5]at h ⊢;split at h;rotate_left
 ·cases h
 rename_i hc;rw[if_pos hc]
 -- field by field
 have e1:=CP l a;rw[e1]at k1;obtain⟨q1,a1,a2,a3⟩:=jy k1;have e2:g2 l a=fH l (fH l a).2.1:=by rw[g2,e1,rx k1]
 generalize hv1:fH l (a:Int)=v1 at *;obtain⟨d1,n1,x1⟩:=v1;dsimp only at *;subst a2;rw[e2]at k2;obtain⟨q2,b1,b2,b3⟩:=jy k2;have e3:g3 l a=qE l (fH l ((a+(pvB d1).length:Nat):Int)).2.1.toNat:=by rw[g3,e2,rx k2]
 generalize hv2:fH l ((a+(pvB d1).length:Nat):Int)=v2 at *;obtain⟨d2,n2,x2⟩:=v2;dsimp only at *;subst b2;rw[Int.toNat_natCast]at e3;have hz1:=fE a1;have hz2:=fE b1
 -- the byte
 generalize hj:a+(pvB d1).length+(pvB d2).length=j at *;obtain⟨x,hx⟩:∃ x,l[j]?=some x:=by
  cases hx:l[j]? with
  | none=>rw[e3,qE,hx]at k3;cases k3
  | some x=>exact⟨x,rfl⟩
 have hxl:¬ 1 < x.toNat:=fun hh=>by
  rw[e3,qE,hx]at k3;dsimp only at k3;rw[if_pos hh]at k3;cases k3
 have e3':g3 l a=(decide (x.toNat=1),((j+1:Nat):Int),0):=by
  rw[e3,qE,hx];dsimp only;rw[if_neg hxl];rfl
 have hd3:=BA hx
 -- the texts
 have e4:g4 l a=kK l ((j+1:Nat):Int) 64:=by rw[g4,e3',rx rfl]
 rw[e4]at k4;obtain⟨q4,c1,c2,c3⟩:=qN k4;have e5:g5 l a=kK l (kK l ((j+1:Nat):Int) 64).2.1 64:=by rw[g5,e4,rx k4]
 generalize hv4:kK l ((j+1:Nat):Int) 64=v4 at *;obtain⟨s4,n4,x4⟩:=v4;dsimp only at *;subst c2;rw[e5]at k5;obtain⟨q5,f1,f2,f3⟩:=qN k5;generalize hv5:kK l ((j+1+(ptB s4).length:Nat):Int) 64=v5 at *;obtain⟨s5,n5,x5⟩:=v5;dsimp only at *;subst f2;have hrr:sg l a base stamp=⟨bes base d1,s4,s5,decide (x.toNat=1),bes stamp d2⟩:=by rw[sg,e1,e2,e3',e4,e5]
 rw[hrr]at hc ⊢;obtain⟨⟨o1,o2⟩,-,-⟩:=fQ hc;dsimp only at o1 o2;have hb1:bes base d1 - base=d1:=by
  unfold bes at o1 ⊢;split
  ·rename_i hh;rw[if_pos hh]at o1;simp[inO]at o1
  ·omega
 have hb2:bes stamp d2 - stamp=d2:=by
  unfold bes at o2 ⊢;split
  ·rename_i hh;rw[if_pos hh]at o2;simp[inO]at o2
  ·omega
 have hbyte:(if decide (x.toNat=1)=true then(1:UInt8)else 0)=x:=by
  apply UInt8.toNat_inj.1;by_cases hh:x.toNat=1
  ·simp[hh]
  ·simp[hh];omega
 have hpr:prB ⟨bes base d1,s4,s5,decide (x.toNat=1),bes stamp d2⟩ base stamp=pvB d1++pvB d2++[x]++ptB s4++ptB s5:=by
  rw[prB];dsimp only;rw[hb1,hb2,hbyte]
 have hz4:=fE c1;refine⟨q5,?_,?_,hc⟩
 ·rw[hpr,a1,← hz1,b1,← hz2,hd3,c1,← hz4,f1];simp
 ·rw[e5,hpr];dsimp only;simp only[length_append,List.length_cons,List.length_nil];omega
theorem tH{α:Type}{l:List α}{k:Nat}(h:k < l.length):l=l.take k++(l[k] :: l.drop (k+1)):=by
 rw[← List.drop_eq_getElem_cons h,List.take_append_drop]
theorem lA(a b:KG):fe (a++b)=fe a++fe b:=by simp[fe]
theorem kU(n:Int)(b:KG):fe (n :: b)=pvB n++fe b:=by simp[fe]
theorem lZ(base stamp:Int)(a b:List Rec):fX base stamp (a++b)=fX base stamp a++fX base stamp b:=by simp[fX]
theorem kP(base stamp:Int)(r:Rec)(b:List Rec):fX base stamp (r :: b)=prB r base stamp++fX base stamp b:=by simp[fX]
theorem wJ{l q:KD}{ns:KG}(hi:∀ n∈ns,I64 n)(h:l=fe ns++q):∀ k,k≤ns.length→mT l k=some (ns.take k,(fe (ns.take k)).length)
 | 0,_=>by simp[mT,fe]
 | k+1,hk=>by
  have hd:l.drop (fe (ns.take k)).length=pvB ns[k]++(fe (ns.drop (k+1))++q):=by
   have e:=tH (l:=ns) (k:=k) (by omega);have:l=fe (ns.take k)++(pvB ns[k]++(fe (ns.drop (k+1))++q)):=by
    rw[h]
    conv=>lhs;rw[e]
    rw[lA,kU];simp
   rw[this,List.drop_left]
  have hv:=mn (hi _ (List.getElem_mem (by omega))) hd;rw[mT,wJ hi h k (by omega)];simp only[Option.bind_some];rw[hv];dsimp only;rw[if_pos rfl,Int.toNat_natCast,List.take_succ_eq_append_getElem (by omega),lA,kU];simp[fe]
theorem qD{l:KD}:∀ (k:Nat) (ns:KG) (p:Nat),mT l k=some (ns,p)→ns.length=k∧(∀ n∈ns,I64 n)∧∃ q,l=fe ns++q∧p=(fe ns).length
 | 0,ns,p,h=>by
  simp only[mT,Option.some.injEq,Prod.mk.injEq]at h;obtain⟨rfl,rfl⟩:=h;exact⟨rfl,by simp,l,by simp[fe],by simp[fe]⟩
 | k+1,ns,p,h=>by
  rw[mT]at h;cases hk:mT l k with
  | none=>rw[hk]at h;cases h
  | some r =>
   obtain⟨ns',p'⟩:=r;rw[hk]at h;simp only[Option.bind_some]at h;split at h
   ·rename_i h0;obtain⟨h1,h2,q,h3,h4⟩:=qD k ns' p' hk;obtain⟨q2,e1,e2,e3⟩:=jy h0;simp only[Option.some.injEq,Prod.mk.injEq]at h;obtain⟨rfl,rfl⟩:=h;rw[e2];generalize (fH l (p':Int)).1=n at e1 e3 ⊢;refine⟨by simp[h1],?_,q2,?_,?_⟩
    ·intro x hx;rcases List.mem_append.1 hx with hx | hx
     ·exact h2 x hx
     ·simp at hx;rw[hx];exact e3
    ·have:q=pvB n++q2:=by rw[← e1,h3,h4,List.drop_left]
     rw[h3,this,lA,kU];simp[fe]
    ·rw[Int.toNat_natCast,lA,kU,h4];simp[fe]
   ·cases h
theorem tR{l q:KD}{base stamp:Int}{p:Nat}{rs:List Rec}(hb:inO base=true)(hs:inO stamp=true)(hc:∀ r∈rs,kb r=0)(h:l.drop p=fX base stamp rs++q):∀ k,k≤rs.length→gQ l base stamp p k=some (rs.take k,p+(fX base stamp (rs.take k)).length)
 | 0,_=>by simp[gQ,fX]
 | k+1,hk=>by
  have hd:l.drop (p+(fX base stamp (rs.take k)).length)=prB rs[k] base stamp++(fX base stamp (rs.drop (k+1))++q):=by
   have e:=tH (l:=rs) (k:=k) (by omega);refine fE (p:=fX base stamp (rs.take k)) ?_;rw[h]
   conv=>lhs;rw[e]
   rw[lZ,kP];simp
  have hv:=C3 hb hs (hc _ (List.getElem_mem (by omega))) hd;rw[gQ,tR hb hs hc h k (by omega)];simp only[Option.bind_some];rw[hv];dsimp only;rw[if_pos rfl,Int.toNat_natCast,List.take_succ_eq_append_getElem (by omega),lZ,kP];simp[fX];omega
theorem oA{l:KD}{base stamp:Int}{p:Nat}:∀ (k:Nat) (rs:List Rec) (p':Nat),gQ l base stamp p k=some (rs,p')→rs.length=k∧(∀ r∈rs,kb r=0)∧∃ q,l.drop p=fX base stamp rs++q∧p'=p+(fX base stamp rs).length
 | 0,rs,p',h=>by
  simp only[gQ,Option.some.injEq,Prod.mk.injEq]at h;obtain⟨rfl,rfl⟩:=h;exact⟨rfl,by simp,l.drop p,by simp[fX],by simp[fX]⟩
 | k+1,rs,p',h=>by
  rw[gQ]at h;cases hk:gQ l base stamp p k with
  | none=>rw[hk]at h;cases h
  | some r =>
   obtain⟨rs',p1⟩:=r;rw[hk]at h;simp only[Option.bind_some]at h;split at h
   ·rename_i h0;obtain⟨h1,h2,q,h3,h4⟩:=oA k rs' p1 hk;obtain⟨q2,e1,e2,e3⟩:=wM h0;simp only[Option.some.injEq,Prod.mk.injEq]at h;obtain⟨rfl,rfl⟩:=h;rw[e2];generalize (getR l (p1:Int) base stamp).1=r at e1 e3 ⊢;refine⟨by simp[h1],?_,q2,?_,?_⟩
    ·intro x hx;rcases List.mem_append.1 hx with hx | hx
     ·exact h2 x hx
     ·simp at hx;rw[hx];exact e3
    ·have:q=prB r base stamp++q2:=by rw[← e1,h4,fE h3]
     rw[h3,this,lZ,kP];simp[fX]
    ·rw[Int.toNat_natCast,lZ,kP,h4];simp[fX];omega
   ·cases h
theorem yA{m:UInt8}(h:m.toNat < 8):UInt8.ofNat ((((m.toNat % 4:Nat):Int)).toNat+if decide (4≤m.toNat)=true then 4 else 0)=m:=by
 apply UInt8.toNat_inj.1;rw[Int.toNat_natCast];by_cases h4:4≤m.toNat
 ·rw[if_pos (decide_eq_true h4),uG (by omega)];omega
 ·rw[if_neg (by simpa using h4),uG (by omega)];omega
theorem uW{l:KD}{x:Batch}(h:eX 15 l=some x):l=fR x:=by
 unfold eX at h;cases hn:mT l 7 with
 | none=>rw[hn]at h;cases h
 | some q =>
  obtain⟨ns,p⟩:=q;rw[hn]at h;simp only[Option.bind_some]at h;obtain⟨hnl,hni,q0,hl0,rfl⟩:=qD 7 ns p hn;unfold kt at h;dsimp only at h;cases hm:l[(fe ns).length]? with
  | none=>rw[hm]at h;cases h
  | some m =>
   rw[hm]at h;simp only[Option.bind_some]at h;split at h;rotate_left
   ·cases h
   rename_i hc;obtain⟨hm8,hn0,hn1⟩:=hc;have hd1:=BA hm;unfold kp at h;split at h;rotate_left
   ·cases h
   rename_i hv;obtain⟨q1,e1,e2,e3⟩:=jy (a:=(fe ns).length+1) hv.1;rw[show(((fe ns).length:Nat):Int)+1=(((fe ns).length+1:Nat):Int)from rfl]at h hv;generalize fH l (((fe ns).length+1:Nat):Int)=v at *;obtain⟨n,nx,er⟩:=v;dsimp only at *;subst e2;generalize hsd:(if 0 < n then fH l (((fe ns).length+1+(pvB n).length:Nat):Int)else(0,(((fe ns).length+1+(pvB n).length:Nat):Int),0))=s at h;unfold lh at h
   split at h;rotate_left
   ·cases h
   rename_i hs;cases hr:gQ l (ns.getD 0 0) s.1 s.2.1.toNat n.toNat with
   | none=>rw[hr]at h;cases h
   | some q =>
    obtain⟨rs,p3⟩:=q;rw[hr]at h;simp only[Option.bind_some]at h;split at h;rotate_left
    ·cases h
    rename_i hf;obtain⟨hp3,hso⟩:=hf;cases h;obtain⟨hrl,hrc,q3,f1,f2⟩:=oA _ rs p3 hr;obtain⟨n0,n1,n2,n3,n4,n5,n6,rfl⟩:∃ n0 n1 n2 n3 n4 n5 n6:Int,ns=[n0,n1,n2,n3,n4,n5,n6]:=by
     match ns,hnl with
     | [n0,n1,n2,n3,n4,n5,n6],_=>exact⟨n0,n1,n2,n3,n4,n5,n6,rfl⟩
    have hhead:fj (mkB [n0,n1,n2,n3,n4,n5,n6] m rs)=[n0,n1,n2,n3,n4,n5,n6]:=by
     have:n0+n1 - n0=n1:=by omega
     simp[fj,mkB,this]
    have hmark:ja (mkB [n0,n1,n2,n3,n4,n5,n6] m rs)=m:=yA hm8;have hlen:(rs.length:Int)=n:=by omega
    have hq3:q3=[]:=by
     have:=congrArg List.length f1;simp only[List.length_drop,length_append]at this;exact List.eq_nil_of_length_eq_zero (by
      by_cases hsl:s.2.1.toNat≤l.length
      ·omega
      ·omega)
    subst hq3;rw[append_nil]at f1;have hbody:fR (mkB [n0,n1,n2,n3,n4,n5,n6] m rs)=fe [n0,n1,n2,n3,n4,n5,n6]++[m]++pvB n++iA (mkB [n0,n1,n2,n3,n4,n5,n6] m rs):=by
     rw[fR,hhead,hmark];show _++_++pvB (rs.length:Int)++_=_;rw[hlen]
    rw[hbody];have hq0:q0=l.drop (fe [n0,n1,n2,n3,n4,n5,n6]).length:=by rw[hl0,List.drop_left]
    have hz1:=fE e1;have htail:q1=iA (mkB [n0,n1,n2,n3,n4,n5,n6] m rs):=by
     match rs,hrl,hso,f1 with
     | [],hrl,_,f1 =>
      have hn0':¬ 0 < n:=by simp at hlen;omega
      rw[if_neg hn0']at hsd;subst hsd;rw[Int.toNat_natCast]at f1;dsimp only at f1;rw[hz1]at f1;rw[f1];simp[iA,mkB,fX]
     | r :: rs,hrl,hso,f1 =>
      have hn0':0 < n:=by simp at hlen;omega
      rw[if_pos hn0']at hsd;subst hsd;obtain⟨q4,g1',g2',g3'⟩:=jy hs;have hst:r.stamp=(fH l (((fe [n0,n1,n2,n3,n4,n5,n6]).length+1+(pvB n).length:Nat):Int)).1:=by simpa [wH]using hso
      rw[g2',Int.toNat_natCast,fE g1']at f1;rw[← hz1,g1',f1,iA];simp only[mkB];rw[hst]
    rw[← htail,hl0]
    conv=>lhs;rw[hq0,hd1,e1]
    simp
theorem vy(x:Batch):0 < (fR x).length:=by
 simp only[fR,length_append,List.length_cons,List.length_nil];omega
theorem y9{x:Batch}(hf:iS x):eX 15 (fR x)=some x:=by
 have hf0:=hf;obtain⟨hrc,hrl⟩:=kx hf0;obtain⟨⟨f1,f2,f3⟩,⟨f4,f5,f6⟩,⟨f7,f8,f9,f10⟩,f11,f12,f13⟩:=hf;simp[rng]at f1 f2 f3 f4 f5 f6;have hi:∀ n∈fj x,I64 n:=by
  intro n hn;simp[fj]at hn;unfold I64;omega
 have hb:fR x=fe (fj x)++(ja x :: (pvB x.recs.length++iA x)):=by simp[fR]
 have h7:=wJ hi hb 7 (by simp[fj]);rw[show(fj x).take 7=fj x from rfl]at h7;have hctl:x.ctl=0∨x.ctl=1∨x.ctl=2:=by
  rcases f13 with h | h
  ·exact .inl h.1
  ·exact .inr h.1
 have hmark:(ja x).toNat=x.ctl.toNat+(if x.txn=true then 4 else 0):=by
  rw[ja,uG];split <;> omega
 have hmk:mkB (fj x) (ja x) x.recs=x:=by
  have h4:x.base+(x.last - x.base)=x.last:=by omega
  have h5:decide (4≤(ja x).toNat)=x.txn:=by
   rw[hmark];cases x.txn
   ·simp;omega
   ·simp
  have h6:(((ja x).toNat % 4:Nat):Int)=x.ctl:=by
   rw[hmark];split <;> omega
  simp only[mkB,fj,List.getD_cons_zero,List.getD_cons_succ,h4,h5,h6]
 generalize fR x=l at hb h7 ⊢;have hd0:l.drop (fe (fj x)).length=ja x :: (pvB x.recs.length++iA x):=by rw[hb,List.drop_left]
 have hm:=JB hd0;have hd1:l.drop ((fe (fj x)).length+1)=pvB x.recs.length++iA x:=fE (p:=[ja x]) hd0;have hv:=mn (n:=x.recs.length) (by unfold I64;omega) hd1;have hd2:=fE hd1;have hll:(l.drop ((fe (fj x)).length+1+(pvB (x.recs.length:Int)).length)).length=(iA x).length:=by rw[hd2]
 have hle:(fe (fj x)).length+1+(pvB (x.recs.length:Int)).length+(iA x).length=l.length:=by
  have:=congrArg List.length hb;simp only[length_append,List.length_cons]at this;omega
 rw[eX,h7];simp only[Option.bind_some];rw[kt];dsimp only;rw[hm];simp only[Option.bind_some];rw[if_pos ⟨by rw[hmark];split <;> omega,by show 0≤x.base∧x.base≤_;omega,by show 0≤x.last - x.base∧x.last - x.base≤_;omega⟩];rw[show(((fe (fj x)).length:Nat):Int)+1=(((fe (fj x)).length+1:Nat):Int)from rfl,hv,kp];dsimp only;rw[if_pos ⟨rfl,by omega,by omega⟩,Int.toNat_natCast]
 generalize (fe (fj x)).length+1+(pvB (x.recs.length:Int)).length=p2 at hd2 hle;have hbase:(fj x).getD 0 0=x.base:=rfl;cases hr:x.recs with
 | nil =>
  rw[hr]at hmk;have ht:iA x=[]:=by rw[iA,hr]
  rw[if_neg (by simp),lh,if_pos rfl,Int.toNat_natCast];simp only[List.length_nil,gQ,Option.bind_some];rw[if_pos ⟨by rw[ht]at hle;simpa using hle,rfl⟩,hmk]
 | cons r rs =>
  have ht:iA x=pvB r.stamp++fX x.base r.stamp (r :: rs):=by rw[iA,hr]
  have hc0:=fQ (hrc r (by rw[hr];simp));have hsi:=iw.1 hc0.1.2;rw[ht]at hd2 hle;have hv2:=mn (n:=r.stamp) (by unfold I64;omega) hd2;have hd3:=fE hd2;have hg:=tR (q:=[]) (iw.2 f1) hc0.1.2 (fun y hy=>hrc y (by rw[hr];exact hy)) (by rw[hd3,append_nil]) (r :: rs).length (Nat.le_refl _);rw[take_length]at hg;rw[if_pos (by simp only[List.length_cons];omega),hv2,lh];dsimp only
  rw[if_pos rfl,Int.toNat_natCast,hbase,hg];simp only[Option.bind_some];rw[if_pos ⟨by simp only[length_append]at hle;omega,by simp[wH]⟩,← hr,hmk]
theorem yU(b:KD):ii (ig b)=(b,0):=by
 have hl:=ky b;have h1:(ig b).take ((ig b).length - 4)=b:=by
  rw[hl,Nat.add_sub_cancel,ig,List.take_left]
 have h2:(ig b).drop ((ig b).length - 4)=kj (zU b).toNat 4:=by
  rw[hl,Nat.add_sub_cancel,ig,List.drop_left]
 rw[ii,if_neg (by omega),h1,h2,if_pos rfl]
theorem uT{l:KD}(h:(ii l).2=0):l=ig (ii l).1:=by
 unfold ii at h ⊢;split at h
 ·cases h
 ·rename_i h0;rw[if_neg h0];split at h
  ·rename_i h1;rw[if_pos h1];dsimp only
   conv=>lhs;rw[← List.take_append_drop (l.length - 4) l,h1]
   rfl
  ·cases h
theorem g0(x:Batch):9≤(eu x).length:=by
 have:=vy x;rw[ml];omega
theorem xl{l q:KD}{a:Nat}{x:Batch}(h0:fM x=0)(h:l.drop a=eu x++q):getB l (a:Int)=(x,((a+(eu x).length:Nat):Int),0):=by
 obtain⟨hf,hbl⟩:=ir h0;have hbp:=g0 x;have hb8:=ml x;have hsl:=ky (fR x);have hd:l.drop a=kj (ig (fR x)).length 4++(ig (fR x)++q):=by rw[h,eu,List.append_assoc]
 have hd4:l.drop (a+4)=ig (fR x)++q:=by
  have:=fE hd
  rwa [fW]at this
 have hn:ix l (a:Int) 4=((ig (fR x)).length,0):=by
  rw[jO,hd,if_neg (by simp[fW]),List.take_left' (fW _ _),nv 4 _ (by omega)]
 rw[getB,hn];dsimp only;rw[if_pos rfl,if_pos ⟨by omega,by omega⟩,Int.toNat_natCast,hd4,if_pos (by simp),List.take_left,yU];dsimp only;rw[if_pos rfl,oa (y9 hf) h0];dsimp only;refine Prod.ext rfl (Prod.ext ?_ rfl);dsimp only;omega
theorem v7{l:KD}{a:Int}(h:(getB l a).2.2=0):∃ (b:Nat) (q:KD),a=b∧l.drop b=eu (getB l a).1++q∧(getB l a).2.1=((b+(eu (getB l a).1).length:Nat):Int)∧fM (getB l a).1=0:=by
 unfold getB at h ⊢;split at h;rotate_left
 ·rename_i h0;exact absurd h h0
 rename_i h0;rw[if_pos h0];split at h;rotate_left
 ·cases h
 rename_i h1;rw[if_pos h1];split at h;rotate_left
 ·cases h
 rename_i h2;rw[if_pos h2];split at h;rotate_left
 ·rename_i h3;exact absurd h h3
 rename_i h3;rw[if_pos h3];obtain⟨ha,hal⟩:=(rY h0).resolve_right (by decide);obtain⟨b,rfl⟩:∃ n:Nat,a=n:=⟨a.toNat,by omega⟩;rw[Int.toNat_natCast]at *;have hs:=uT h3;cases hp:rL 15 (ii ((l.drop (b+4)).take (ix l (b:Int) 4).1)).1 with
 | none=>rw[hp]at h;cases h
 | some x =>
  rw[hp]at h;dsimp only;rw[rL]at hp;cases hq:eX 15 (ii ((l.drop (b+4)).take (ix l (b:Int) 4).1)).1 with
  | none=>rw[hq]at hp;cases hp
  | some y =>
   rw[hq]at hp;simp only[Option.bind_some]at hp;split at hp;rotate_left
   ·cases hp
   rename_i h4;cases hp;have hb:=uW hq;rw[hb]at hs;have hn:ix l (b:Int) 4=(la ((l.drop b).take 4),0):=by
    rw[jO,if_neg (by simp;omega)]
   have hlen:(ix l (b:Int) 4).1=(ig (fR x)).length:=by
    rw[← hs];simp only[List.length_take];omega
   have hd4:l.drop (b+4)=ig (fR x)++(l.drop (b+4)).drop (ix l (b:Int) 4).1:=by
    conv=>lhs;rw[← List.take_append_drop (ix l (b:Int) 4).1 (l.drop (b+4)),hs]
   have hd:l.drop b=(l.drop b).take 4++l.drop (b+4):=by
    rw[← List.drop_drop];exact(List.take_append_drop 4 _).symm
   have h44:(l.drop b).take 4=kj (ig (fR x)).length 4:=by
    rw[← hlen,hn];exact(nH 4 _ (by simp;omega)).symm
   refine⟨b,(l.drop (b+4)).drop (ix l (b:Int) 4).1,rfl,?_,?_,h4⟩
   ·rw[eu,List.append_assoc,← hd4,← h44];exact hd
   ·rw[eu,length_append,fW,← hlen];omega
def fN(l:KE):KD:=l.flatMap eu
theorem nZ{l:KE}{k:Nat}{x:Batch}(hx:l[k]?=some x):fN (l.take (k+1))=fN (l.take k)++eu x:=by
 unfold fN;rw[List.take_add_one,hx];simp[List.flatMap_append]
theorem vU{l:KE}{k:Nat}{x:Batch}(hx:l[k]?=some x):(fN l).drop (fN (l.take k)).length=eu x++fN (l.drop (k+1)):=by
 obtain⟨hk,he⟩:=List.getElem?_eq_some_iff.1 hx;have h1:fN l=fN (l.take k)++(eu x++fN (l.drop (k+1))):=by
  conv=>lhs;rw[← List.take_append_drop k l,List.drop_eq_getElem_cons hk,he]
  simp[fN,List.flatMap_append]
 rw[h1,List.drop_left]
theorem Iv{v:W32}(h:stp v=0#32):v=0#32:=by
 cases hb:v.getLsbD 0 with
 | true =>
  exfalso;rw[stp,if_pos hb]at h;have h2:((v >>> 1) ^^^ uI).getLsbD 31=(0#32).getLsbD 31:=by rw[h]
  rw[BitVec.getLsbD_xor,BitVec.getLsbD_ushiftRight]at h2;have h3:v.getLsbD (1+31)=false:=BitVec.getLsbD_of_ge _ _ (by omega);rw[h3]at h2;exact absurd h2 (by decide)
 | false =>
  rw[tw hb]at h;have h1:(v >>> 1).toNat=0:=by rw[h];rfl
  rw[BitVec.toNat_ushiftRight,Nat.shiftRight_eq_div_pow]at h1;have h2:¬ v.toNat % 2=1:=fun hh=>by rw[(EM v).2 hh]at hb;cases hb
  apply BitVec.eq_of_toNat_eq;show v.toNat=0;omega
structure Sg where
 base:Int
 bytes:KD
deriving DecidableEq
def tF:Int→KE→Prop
 | _,[]=>True
 | nx,x :: xs=>nx≤x.base∧tF (x.last+1) xs
def fV:Int→KE→Int
 | nx,[]=>nx
 | _,x :: xs=>fV (x.last+1) xs
def o7(q:KD)(nx:Int):Prop:=(getB q 0).2.2=0∧nx≤(getB q 0).1.base
instance (q:KD) (nx:Int):Decidable (o7 q nx):=by unfold o7;infer_instance
def zm:Nat→Int→KD→KE
 | 0,_,_=>[]
 | f+1,nx,q=>if o7 q nx then(getB q 0).1 :: zm f ((getB q 0).1.last+1) (q.drop (eu (getB q 0).1).length)else[]
structure Scans (nx:Int) (q:KD) (bs:KE) (r:KD):Prop where
 eq:q=fN bs++r
 ok:∀ x∈bs,fM x=0
 ord:tF nx bs
 stop:¬ o7 r (fV nx bs)
def fi(s:Sg):KE:=zm s.bytes.length s.base s.bytes
def gk(s:Sg):Nat:=(fN (fi s)).length
def kf(s:Sg):Int:=fV s.base (fi s)
theorem gH(x:Batch)(l:KE):fN (x :: l)=eu x++fN l:=rfl
theorem ma(a b:KE):fN (a++b)=fN a++fN b:=by simp[fN]
theorem lS(nx:Int)(a b:KE):fV nx (a++b)=fV (fV nx a) b:=by
 induction a generalizing nx with
 | nil=>rfl
 | cons x a ih=>exact ih _
theorem pC(nx:Int)(a b:KE):tF nx (a++b)↔tF nx a∧tF (fV nx a) b:=by
 induction a generalizing nx with
 | nil=>simp[tF,fV]
 | cons x a ih=>simp only[List.cons_append,tF,fV,ih,and_assoc]
theorem tS{q s:KD}{x:Batch}(h0:fM x=0)(h:q=eu x++s):getB q 0=(x,((eu x).length:Int),0):=by
 have:=xl (l:=q) (a:=0) h0 h;rw[Nat.zero_add]at this;exact this
theorem r7{q:KD}{nx:Int}(h:o7 q nx):∃ x s,getB q 0=(x,((eu x).length:Int),0)∧q=eu x++s∧fM x=0∧nx≤x.base:=by
 obtain⟨h1,h2⟩:=h;obtain⟨b,s,e0,e1,e2,e3⟩:=v7 h1;have hb:b=0:=by omega
 subst hb;exact⟨_,s,tS e3 e1,e1,e3,h2⟩
theorem xX{q s:KD}{x:Batch}{nx:Int}(h0:fM x=0)(h:q=eu x++s):o7 q nx↔nx≤x.base:=by
 rw[o7,tS h0 h];simp
theorem oI:∀ (f:Nat) (nx:Int) (q:KD),q.length≤f→∃ r,Scans nx q (zm f nx q) r
 | 0,nx,q,h=>by
  have hq:q=[]:=List.eq_nil_of_length_eq_zero (by omega);subst hq;refine⟨[],⟨rfl,fun x hx=>(by cases hx),trivial,fun hm=>?_⟩⟩;obtain⟨x,s,-,e,-⟩:=r7 hm;have:=g0 x;have h2:=congrArg List.length e;simp at h2;omega
 | f+1,nx,q,h=>by
  unfold zm;split
  ·rename_i hm;obtain⟨x,s,e1,e2,e3,e4⟩:=r7 hm;rw[e1];dsimp only;have hp:=g0 x;have hd:q.drop (eu x).length=s:=by rw[e2,List.drop_left]
   rw[hd];obtain⟨r,hr⟩:=oI f (x.last+1) s (by rw[e2,length_append]at h;omega);refine⟨r,⟨by rw[gH,List.append_assoc,← hr.eq,e2],fun y hy=>?_,⟨e4,hr.ord⟩,hr.stop⟩⟩;rcases List.mem_cons.1 hy with rfl | hy
   ·exact e3
   ·exact hr.ok y hy
  ·rename_i hm;exact⟨q,⟨rfl,fun x hx=>(by cases hx),trivial,hm⟩⟩
theorem fD(s:Sg):∃ r,Scans s.base s.bytes (fi s) r:=oI _ _ _ (Nat.le_refl _)
theorem Scans.uniq:∀ {bs bs':KE} {nx:Int} {q r r':KD},Scans nx q bs r→Scans nx q bs' r'→bs=bs'∧r=r'
 | [],[],nx,q,r,r',h,h'=>⟨rfl,by have:=h.eq.symm.trans h'.eq;exact this⟩
 | [],x :: bs',nx,q,r,r',h,h'=>by
  have hq:q=r:=h.eq;subst hq;exact absurd ((xX (h'.ok x (.head _)) (by rw[h'.eq,gH,List.append_assoc])).2 h'.ord.1) h.stop
 | x :: bs,[],nx,q,r,r',h,h'=>by
  have hq:q=r':=h'.eq;subst hq;exact absurd ((xX (h.ok x (.head _)) (by rw[h.eq,gH,List.append_assoc])).2 h.ord.1) h'.stop
 | x :: bs,y :: bs',nx,q,r,r',h,h'=>by
  have e1:q=eu x++(fN bs++r):=by rw[h.eq,gH,List.append_assoc]
  have e2:q=eu y++(fN bs'++r'):=by rw[h'.eq,gH,List.append_assoc]
  have g1:=tS (h.ok x (.head _)) e1;have g2:=tS (h'.ok y (.head _)) e2;rw[g1]at g2;have hxy:x=y:=congrArg Prod.fst g2;subst hxy;rw[e1]at e2;have e3:=List.append_cancel_left e2;obtain⟨rfl,rfl⟩:=Scans.uniq (nx:=x.last+1) (q:=fN bs++r) ⟨rfl,fun z hz=>h.ok z (.tail _ hz),h.ord.2,h.stop⟩ ⟨e3,fun z hz=>h'.ok z (.tail _ hz),h'.ord.2,h'.stop⟩;exact⟨rfl,rfl⟩
theorem Scans.is{s:Sg}{bs:KE}{r:KD}(h:Scans s.base s.bytes bs r):fi s=bs:=by
 obtain⟨r',h'⟩:=fD s;exact(h'.uniq h).1
theorem vZ{l:KD}{a:Nat}:(getB l (a:Int)).1=(getB (l.drop a) 0).1∧(getB l (a:Int)).2.2=(getB (l.drop a) 0).2.2:=by
 have h1:ix l (a:Int) 4=ix (l.drop a) 0 4:=by
  unfold ix;rw[if_neg (show ¬ (a:Int) < 0 by omega),if_neg (show ¬ (0:Int) < 0 by omega)];simp only[Int.toNat_natCast,Int.toNat_zero,List.drop_zero]
 have h2:l.drop (a+4)=(l.drop a).drop 4:=by rw[List.drop_drop]
 unfold getB;rw[h1];simp only[Int.toNat_natCast,h2,Int.toNat_zero,Nat.zero_add];split
 ·split
  ·split
   ·split
    ·split <;> exact⟨rfl,rfl⟩
    ·exact⟨rfl,rfl⟩
   ·exact⟨rfl,rfl⟩
  ·exact⟨rfl,rfl⟩
 ·exact⟨rfl,rfl⟩
theorem gX(l:KE)(k:Nat):(fN (l.take k)).length≤(fN l).length:=by
 conv=>rhs;rw[← List.take_append_drop k l,ma,length_append]
 omega
theorem Scans.len{nx:Int}{q r:KD}{bs:KE}(h:Scans nx q bs r):9 * bs.length≤(fN bs).length∧(fN bs).length≤q.length:=by
 refine⟨?_,by rw[h.eq,length_append];omega⟩;clear h
 induction bs with
 | nil=>simp
 | cons x bs ih =>
  have:=g0 x;rw[gH,length_append,List.length_cons];omega
theorem Scans.at_{nx:Int}{q r:KD}{bs:KE}(h:Scans nx q bs r){k:Nat}{x:Batch}(hx:bs[k]?=some x):
  getB q (((fN (bs.take k)).length:Nat):Int)=(x,(((fN (bs.take (k+1))).length:Nat):Int),0)∧fV nx (bs.take k)≤x.base∧fV nx (bs.take (k+1))=x.last+1∧fM x=0:=by
 have hd:q.drop (fN (bs.take k)).length=eu x++(fN (bs.drop (k+1))++r):=by
  have:=vU hx;rw[h.eq,List.drop_append_of_le_length (gX _ _),this,List.append_assoc]
 obtain⟨hk,he⟩:=List.getElem?_eq_some_iff.1 hx;have e1:bs=bs.take k++(x :: bs.drop (k+1)):=by
  conv=>lhs;rw[← List.take_append_drop k bs,List.drop_eq_getElem_cons hk,he]
 have ho:=h.ord;rw[e1,pC]at ho;have h0:=h.ok x (mem_of_getElem? hx);refine⟨?_,ho.2.1,?_,h0⟩
 ·rw[xl h0 hd,nZ hx,length_append]
 ·rw[List.take_add_one,hx];show fV nx (bs.take k++[x])=_;rw[lS];rfl
theorem Scans.end_{nx:Int}{q r:KD}{bs:KE}(h:Scans nx q bs r):¬ (getB q (((fN bs).length:Nat):Int)).2.2=0∨(getB q (((fN bs).length:Nat):Int)).1.base < fV nx bs:=by
 have hs:=h.stop;have hd:=@vZ q (fN bs).length;have e:q.drop (fN bs).length=r:=by rw[h.eq,List.drop_left]
 rw[e]at hd;rw[hd.1,hd.2];unfold o7 at hs;by_cases h0:(getB r 0).2.2=0
 ·right;have:¬ fV nx bs≤(getB r 0).1.base:=fun hh=>hs ⟨h0,hh⟩
  omega
 ·exact .inl h0
theorem F151:Fun Tryz.prog 151 4 v151 c151 o151:=Fun.mkA Tryz.func151 Tryz.ntmps151
theorem F177:Fun Tryz.prog 177 37 v177 c177 o177:=Fun.mkA Tryz.func177 Tryz.ntmps177
theorem F131:Fun Tryz.prog 131 17 v131 c131 o131:=Fun.mkA Tryz.func131 Tryz.ntmps131
theorem F114:Fun Tryz.prog 114 15 v114 c114 o114:=Fun.mkA Tryz.func114 Tryz.ntmps114
theorem lI{s:Nat}:∀ {L:Kv},eC L→rmR s L=L
 | [],_=>rfl
 | .reg s' cs :: L,h=>absurd (.head _) (h s' cs)
 | .blk b cs :: L,h=>congrArg (Kx.Item.blk b cs :: ·) (lI (s:=s) fun s cs hm=>h s cs (.tail _ hm))
 | .row v e sz n xs :: L,h=>congrArg (Kx.Item.row v e sz n xs :: ·) (lI (s:=s) fun s cs hm=>h s cs (.tail _ hm))
 | .obj b o :: L,h=>congrArg (Kx.Item.obj b o :: ·) (lI (s:=s) fun s cs hm=>h s cs (.tail _ hm))
theorem FF{h:H}{b b':Nat}{c c':Kt}(hs:List.Sublist [Kx.Item.blk b c,.blk b' c'] h.L):fc h fun h'=>h'=h∧¬ b=b':=fc.fact fun β w s=>by
 have hd:(dom β [Kx.Item.blk b c,.blk b' c']).Sublist (dom β h.L):=hs.filterMap _;have:=hd.nodup (List.nodup_append.1 s.nd).1;simpa [dom,Item.block]using this
theorem fa{α:Type}{E E':α→Kt→Prop}{sz:Nat}{xs:List α}{ys:Kt}(h:Cells E sz xs ys)(hE:∀ x cs,E x cs→E' x cs):Cells E' sz xs ys:=by
 induction h with
 | nil=>exact .nil
 | cons h1 h2 _ ih=>exact .cons (hE _ _ h1) h2 ih
def gh(s:Sg)(A:Ky)(c:Nat):Kt:=[.int .i64 s.base,.slice A s.bytes.length c]
def SE(G:Ks)(s:Sg)(cs:Kt):Prop:=∃ A c,cs=gh s A c∧SB G (.slice A s.bytes.length c) s.bytes∧I64 s.base
theorem SE.le{G G':Ks}(hg:Gle G G'){s:Sg}{cs:Kt}(h:SE G s cs):SE G' s cs:=by
 obtain⟨A,c,h1,h2,h3⟩:=h;exact⟨A,c,h1,SB.le h2 hg,h3⟩
def EB(bs:KE)(G:Ks)(k:Nat)(args:Array Value):Prop:=∃ x cs,bs[k]?=some x∧BE G x cs∧args=#[.agg cs.toArray,.int .i64 (((fN (bs.take (k+1))).length:Nat):Int)]
theorem yM{x:Batch}(h:fM x=0):IntKind.i64.wrap (x.last+1)=x.last+1:=by
 obtain⟨⟨-,f2,-⟩,-⟩:=(ir h).1;simp[rng]at f2;rw[ei] <;> omega
theorem oY{n k i:Nat}(h:(List.range n)[k]?=some i):i=k∧k < n:=by
 have h1:=(List.getElem?_eq_some_iff.1 h).1;rw[List.length_range]at h1;rw[List.getElem?_range h1]at h;cases h;exact⟨rfl,h1⟩
theorem ux(s:Sg)(A:Ky)(c b:Nat)(G0:Ks)(hl:SB G0 (.slice A s.bytes.length c) s.bytes)(hb:s.bytes.length≤1000000)(h0:fB G0 ⟨b,0,none⟩=some (.int .i64 s.base))(h1:fB G0 ⟨b,1,none⟩=some (.slice A s.bytes.length c)):
  kZ Tryz.prog 177 #[.pointer (some ⟨b,0,none⟩)] (List.range (fi s).length) (EB (fi s)) G0:=by
 obtain⟨r,hsc⟩:=fD s;generalize fi s=bs at hsc;intro yl I Ix G L hG hn hI hIx hmo hi0 hy L2 D;have hargs:(#[.func (.yield yl) #[] #[]]++#[.pointer (some ⟨b,0,none⟩)]:Array Value)=#[.func (.yield yl) #[] #[],.pointer (some ⟨b,0,none⟩)]:=rfl;rw[hargs,List.length_range];refine(F177.calls (R:=fun _ h=>Gle G h.G∧(I bs.length h.G h.L∨∃ i,i < bs.length∧Ix i h.G h.L)) (by simp) hn (dY ?_) L2 D).mono ?_
 rotate_left
 ·rintro v h' ⟨G',L',rfl,hn',hgg,hr⟩;exact⟨G',L',rfl,hgg,hn',hr⟩
 have e0:=em hG h0;have e1:=em hG h1;have hlG:=SB.le hl hG;have hlen:=hsc.len;unfold c177;intros;refine dT ?_;refine qB 8 10 (by decide) ?_;refine sJ c177r0.eq_1 ?_;refine⟨_,⟨_,rfl,.g e0⟩,?_⟩;refine sI ?_;intros;refine dT ?_
 refine ej (fun e h=>∃ (t:Nat) (G':Ks) (L' Lh:Kv),(t≤bs.length∧Gle G G'∧eC L'∧I t G' L')∧e 3=.int .i64 (((fN (bs.take t)).length:Nat):Int)∧e 4=.int .i64 (fV s.base (bs.take t))∧e 0=.func (.yield yl) #[] #[]∧e 1=.pointer (some ⟨b,0,none⟩)∧h=⟨G',Lh,[]⟩∧L'.Sublist Lh) (fun e h=>s.bytes.length+1 - iv (e 3)) ?_ ?_
 ·exact⟨0,G,L,L,⟨Nat.zero_le _,.refl G,hn,hi0⟩,rfl,rfl,eE,eE,rfl,List.Sublist.refl _⟩
 rintro e h ⟨t,G',L',Lh,⟨ht,hgg,hn',hI'⟩,e3,e4,e00,e11,rfl,hsub⟩;refine dV [0,1,3,4] ?_;refine sJ4 @e00 @e11 @e3 @e4 ?_;intros;refine dU (dX hsub) ?_;have hrm:=lI (s:=5) hn';have e1':=em hgg e1;have hget:=CL s.bytes (((fN (bs.take t)).length:Nat):Int) _ G' (SB.le hlG hgg) hb;unfold qW at hget;have htk:=gX bs t
 have hw1:IntKind.i64.wrap (((fN (bs.take t)).length:Nat):Int)=(((fN (bs.take t)).length:Nat):Int):=by rw[ei] <;> omega
 intros;refine gR 10 18 c177r1.eq_1 ?_;refine⟨_,⟨_,rfl,.g e1'⟩,?_⟩;refine sI ?_;refine(hget _ _).mono ?_;rintro v h' ⟨G1,rfl,hg1,cs,rfl,hbe⟩;by_cases htl:t < bs.length
 ·obtain⟨x,hx⟩:∃ x,bs[t]?=some x:=⟨bs[t],getElem?_eq_getElem htl⟩;obtain⟨a1,a2,a3,a4⟩:=hsc.at_ hx;rw[a1]at hbe ⊢;dsimp only at hbe ⊢;have hbe0:=hbe;obtain⟨B,d,rfl,-⟩:=hbe;have hlt:(fN (bs.take t)).length < (fN (bs.take (t+1))).length:=by
   have:=g0 x;rw[nZ hx,length_append];omega
  have hle:=gX bs (t+1);have hEB:EB bs G1 t #[.agg (fu x (.slice B x.recs.length d)).toArray,.int .i64 (((fN (bs.take (t+1))).length:Nat):Int)]:=⟨x,_,hx,hbe0,rfl⟩;unfold fu at hbe0 hEB ⊢;generalize hn1:(fN (bs.take (t+1))).length=n1 at *;generalize (fN (bs.take t)).length=n0 at *;have a2':decide (x.base < fV s.base (bs.take t))=false:=decide_eq_false (by omega);have hlw:=yM a4;refine sJ @hrm ?_
  have hz:decide ((0:Int)≠0)=false:=by decide
  intros;refine gr 18 32 ?_;refine sJ3 c177r2.eq_1 @hz @a2' ?_;refine .inr ⟨yl,rfl,?_⟩;refine jo.ghost (eO (List.perm_append_comm (l₁:=[_]))) ?_;refine(hy t t _ G1 L' (List.getElem?_range htl) (hgg.trans hg1) hEB (hmo _ _ _ _ hg1 hI') [_] []).mono ?_;rintro v h' ⟨G2,L3,rfl,hg2,hn2,hr⟩;rcases hr with⟨rfl,hr⟩ | ⟨rfl,hr⟩
  ·refine sI ?_;intros;refine gC ?_;refine dU (eO (List.perm_append_comm (l₂:=[_]))) ?_;intros;refine dT ?_;refine qB 33 37 (by decide) ?_;refine sJ2 c177r3.eq_1 @hlw ?_;intros;refine dT ?_;refine eF ⟨⟨t+1,G2,L3,_,⟨by omega,(hgg.trans hg1).trans hg2,hn2,hr⟩,(eJ @hn1),(eJ @a3),eE,eE,rfl,.cons _ KJ⟩,?_⟩;refine sI ?_;omega
  ·refine sI ?_;intros;refine gC ?_;intros;refine dT ?_;refine ea (ee L3 rfl (List.sublist_append_left _ _) hn2 ?_);exact⟨(hgg.trans hg1).trans hg2,.inr ⟨t,htl,hr⟩⟩
 ·have htl:t=bs.length:=by omega
  subst htl;rw[take_length]at hget hbe ⊢;have hend:=hsc.end_;generalize getB s.bytes (((fN bs).length:Nat):Int)=q at *;obtain⟨x,nx,er⟩:=q;dsimp only at hbe hend ⊢;obtain⟨B,d,rfl,-⟩:=hbe;unfold fu;have hfin:Gle G G1∧(I bs.length G1 L'∨∃ i,i < bs.length∧Ix i G1 L'):=⟨hgg.trans hg1,.inl (hmo _ _ _ _ hg1 hI')⟩;refine sJ @hrm ?_;intros;refine gR 18 32 c177r2.eq_1 ?_
  refine gd (fun k1=>?_) (fun k1=>?_)
  ·refine sI ?_;intros;refine gC ?_;intros;refine dT ?_;exact ea (ee L' rfl (.cons _ KJ) hn' hfin)
  ·have k1:er=0:=by simpa using k1
   have k2:decide (x.base < fV s.base bs)=true:=decide_eq_true (by rcases hend with h | h;exact absurd k1 h;exact h)
   refine sJ @k2 ?_;intros;refine gC ?_;intros;refine dT ?_;exact ea (ee L' rfl (.cons _ KJ) hn' hfin)
theorem rO(s:Sg)(cs:Kt)(G:Ks)(hs:SE G s cs)(hb:s.bytes.length≤1000000):
  FnD Tryz.prog 151 #[.agg cs.toArray] G (fun G' r=>∃ b,r=.func (.func 177) #[] #[.pointer (some ⟨b,0,none⟩)]∧kZ Tryz.prog 177 #[.pointer (some ⟨b,0,none⟩)] (List.range (fi s).length) (EB (fi s)) G'):=by
 obtain⟨A,c,rfl,hl,hi⟩:=hs;refine F151.fnD (by simp) (dY ?_);unfold c151 gh;intros;refine gR 0 0 c151r0.eq_1 ?_;intro b1 hb1;intros;refine dT ?_;refine eI jx ?_;rintro h' ⟨G1,rfl,hg1,hc1⟩;have e0:=hc1 0 _ rfl;have e1:=hc1 1 _ rfl;rw[eV]at e0 e1;intros;refine gR 3 4 c151r1.eq_1 ?_;intros;refine rW ?_;exact⟨b1,rfl,ux s A c b1 G1 (SB.le hl hg1) hb e0 e1⟩
def wU(s:Sg)(G':Ks)(L':Kv)(r:Value):Prop:=∃ u zc,r=.tuple #[u,.int .i64 ((gk s:Nat):Int)]∧Cells (BE G') 10 (fi s) zc∧L'=[.row u 43 10 (fi s).length zc]
theorem pi(s:Sg)(cs:Kt)(G:Ks)(hs:SE G s cs)(hb:s.bytes.length≤1000000):FnO Tryz.prog 131 #[.agg cs.toArray] G [] (fun G' L' r=>wU s G' L' r):=by
 have hs0:=hs;obtain⟨A,c,rfl,hl,hi⟩:=hs;refine F131.fnO (by simp) dS (dY ?_);unfold c131;unfold gh at hs0 ⊢;intros;refine gR 0 0 c131r0.eq_1 ?_;intro b1 hb1 b2 hb2 b3 hb3;intros;refine dT ?_;refine eI (eP [_,_] _) ?_;rintro h' ⟨G1,rfl,hg1,f1⟩;have e0:=f1 0 _ rfl;have e1:=f1 1 _ rfl;rw[eV]at e0 e1;intros;refine gR 6 7 c131r1.eq_1 ?_
 refine⟨_,⟨_,[.int .i64 s.base,.slice A s.bytes.length c],rfl,rfl,rfl,fun j u hu=>.g (f1 j u hu)⟩,?_⟩;refine sI ?_;refine(rO s _ G1 (SE.le hg1 hs0) hb _ _).mono ?_;rintro r h' ⟨G2,rfl,hg2,b,rfl,hit⟩;obtain⟨rr,hsc⟩:=fD s;have hSR:∀ G' u zc,Cells (BE G') 10 (fi s) zc→wU s G' [.row u 43 10 (fi s).length zc] (.tuple #[u,.int .i64 (((fN (fi s)).length:Nat):Int)]):=fun G' u zc h=>⟨u,zc,rfl,h,rfl⟩
 generalize fi s=bs at hit hsc hSR;have hlen:=hsc.len;refine sI ?_;intros;refine dT ?_;refine dU (eA none 43 10) ?_;refine sn (α:=Nat) (fun k G' L'=>∃ u zc,L'=[.row u 43 10 (bs.take k).length zc,.blk b3 [.int .i64 (((fN (bs.take k)).length:Nat):Int)],.blk b2 [u]]∧Cells (BE G') 10 (bs.take k) zc) (fun _ _ _ _=>False) (eE) F177.enters (dW (ec (ec dS)))
  (fun i G G' L hg ⟨u,zc,h1,h2⟩=>⟨u,zc,h1,fa h2 fun _ _ h=>BE.le hg h⟩) hit (fun G x args h=>by obtain⟨y,_,_,_,rfl⟩:=h;rfl) ⟨_,[],rfl,.nil⟩ ?_ ?_ ?_
 ·rintro yl k i args G' L' hki hgl ⟨x,cs,hx,hbe,rfl⟩ ⟨u,zc,rfl,hzc⟩ _;obtain⟨rfl,hkl⟩:=oY hki;have hbe0:=hbe;obtain⟨B,d,rfl,-⟩:=hbe;unfold fu at hbe0 ⊢;refine sI ?_;intros;refine gR 0 0 c131r2.eq_1 ?_;intros;refine gR 0 0 c131r3.eq_1 ?_;intro bb;refine gD (rS ?_);have htk:bs.take (i+1)=bs.take i++[x]:=by rw[List.take_add_one,hx];rfl
  have hkl2:(bs.take i).length≤bs.length:=by rw[List.length_take];omega
  intros;refine gR 10 15 c131r4.eq_1 ?_;refine⟨_,dZ (.tail _ (.tail _ (.tail _ (.head _)))) rfl,?_⟩;refine sI ?_;intro bk hbk;refine xj (L1:=[_]) (L2:=[_,_]) (E:=BE G') (x:=x) rfl hbe0 rfl (by simp[Value.oneCell']) hzc (by omega) (by omega) fun A' c' zc' hzc'=>?_
  rw[← htk]at hzc' ⊢;refine sI ?_;refine ek [_,_,_,_] [] rfl (by simp) ⟨rfl,rfl⟩ ?_;refine sI ?_;refine ek [_,_,_] [_] rfl (by simp) ⟨rfl,rfl⟩ ?_;refine sI ?_;intros;refine dT ?_;refine gD (rk _ (.cons _ (.cons _ KJ)) (dW (ec (ec dS))) ⟨_,zc',rfl,hzc'⟩)
 ·rintro G' L' dd hgl ⟨u,zc,rfl,hzc⟩ _;rw[List.length_range]at hzc ⊢;rw[take_length]at hzc ⊢;intros;refine dT ?_;refine eI (gL (.head _)) ?_;rintro h' ⟨rfl,A2,c2,rfl,-,-⟩;refine eI (FF (.cons _ KJ)) ?_;rintro h' ⟨rfl,hne⟩;intros;refine dT ?_;refine qe _ KJ (by decide) ?_;refine sJ c131r5.eq_1 ?_;refine⟨_,dZ (.tail _ (.tail _ (.head _))) rfl,?_⟩;refine sI ?_
  refine⟨_,dZ (.tail _ (.head _)) rfl,?_⟩;refine sI ?_;refine ek [_,_] [] rfl (by simp) ⟨rfl,rfl⟩ ?_;refine sI ?_;refine ek [_] [_] rfl (by simp) ⟨rfl,rfl⟩ ?_;refine sI ?_;intros;refine dT ?_;refine ea (ee (out:=[.slice A2 bs.length c2,.int .i64 (((fN bs).length:Nat):Int)]) _ ?_ (.cons_cons _ KL) (dW dS) (hSR G' _ _ hzc));simp[o131,mR,Kx.getB,vg,ldC,Env.set,hne]
 ·rintro ex i G' L' d _ _ h;exact h.elim
theorem pX{bs:KE}{k:Nat}{x:Batch}(nx:Int)(hx:bs[k]?=some x):fV nx (bs.take (k+1))=x.last+1:=by
 rw[List.take_add_one,hx];show fV nx (bs.take k++[x])=_;rw[lS];rfl
theorem vL(s:Sg)(cs:Kt)(G:Ks)(hs:SE G s cs)(hb:s.bytes.length≤1000000):FnS Tryz.prog 114 #[.agg cs.toArray] G (.int .i64 (kf s)):=by
 have hs0:=hs;obtain⟨A,c,rfl,hl,hi⟩:=hs;refine F114.fnS (by simp) (dY ?_);unfold c114;unfold gh at hs0 ⊢;intros;refine gR 0 0 c114r0.eq_1 ?_;intro b1 hb1;intros;refine dT ?_;refine eI jx ?_;rintro h' ⟨G1,rfl,hg1,f1⟩;have e0:=f1 0 _ rfl;rw[eV]at e0;intros;refine gR 5 7 c114r1.eq_1 ?_;refine⟨_,⟨_,rfl,.g e0⟩,?_⟩;refine sI ?_;intro b3 hb3;refine ek [] [] rfl (by simp) ⟨rfl,rfl⟩ ?_;refine sI ?_
 intros;refine gR 7 8 c114r2.eq_1 ?_;refine⟨_,⟨_,[.int .i64 s.base,.slice A s.bytes.length c],rfl,rfl,rfl,fun j u hu=>.g (f1 j u hu)⟩,?_⟩;refine sI ?_;refine(rO s _ G1 (SE.le hg1 hs0) hb _ _).mono ?_;rintro r h' ⟨G2,rfl,hg2,b,rfl,hit⟩;obtain⟨rr,hsc⟩:=fD s;have hend:kf s=fV s.base (fi s):=rfl;generalize fi s=bs at hit hsc hend;refine sI ?_;intros;refine dT ?_
 refine sn (α:=Nat) (fun k G' L'=>L'=[.blk b3 [.int .i64 (fV s.base (bs.take k))]]) (fun _ _ _ _=>False) (eE) F177.enters (ec dS)
  (fun i G G' L hg h=>h) hit (fun G x args h=>by obtain⟨y,_,_,_,rfl⟩:=h;rfl) rfl ?_ ?_ ?_
 ·rintro yl k i args G' L' hki hgl ⟨x,cs,hx,hbe,rfl⟩ rfl _;obtain⟨rfl,hkl⟩:=oY hki;obtain⟨B,d,rfl,-⟩:=hbe;have hlw:=yM (hsc.ok x (mem_of_getElem? hx));unfold fu;refine sI ?_;intros;refine gR 0 0 c114r3.eq_1 ?_;intro bb;refine gD (rS ?_);intros;refine gR2 12 14 c114r4.eq_1 @hlw ?_;refine ek [_] [] rfl (by simp) ⟨rfl,rfl⟩ ?_;refine sI ?_;intros;refine dT ?_
  refine gD (rk [.blk b3 [.int .i64 (x.last+1)]] (.cons _ KJ) (ec dS) ?_);rw[pX s.base hx]
 ·rintro G' L' dd hgl rfl _;rw[List.length_range,take_length,← hend];intros;refine gR 14 15 c114r5.eq_1 ?_;refine⟨_,dZ (.head _) rfl,?_⟩;refine sI ?_;intros;refine rV ?_;simp only[push_cast,Nat.reduceBEq]
 ·rintro ex i G' L' d _ _ h;exact h.elim
end Go.Proofs.YtpmofpekcbghnaaGreat
namespace Go.Proofs.YtpmofpekcbghnaaGreat
open Go Go.Kx Go.RowKit
open List (getElem?_eq_getElem mem_of_getElem? length_append append_nil take_length)
theorem wE(W:World):ip Tryz.prog W 120 (SE (pF W)):=fun H enc fuel cs x hx=>by
 obtain⟨hl,hf⟩:=jp Tryz.underlying120 (by kernel_rfl) (by kernel_rfl) hx;obtain⟨v0,_,_,c0,t0⟩:=hf 0 _ rfl;obtain⟨v1,_,_,c1,t1⟩:=hf 1 _ rfl;obtain⟨n0,e0,w0⟩:=(f0 Tryz.underlying3).at_ t0;obtain⟨n1,A,c,e1,w1⟩:=(rP W).at_ t1;cases e0;cases e1;refine⟨⟨n0,n1⟩,A,c,?_,⟨A,c,rfl,w1⟩,jI w0⟩
 match cs,hl with
 | [_,_],_=>cases c0;cases c1;rfl
end Go.Proofs.YtpmofpekcbghnaaGreat
namespace Go.Proofs.YtpmofpekcbghnaaGreat
open Go Go.Kx
open List (getElem?_eq_getElem mem_of_getElem? length_append append_nil take_length)
theorem F172:Fun Tryz.prog 172 13 v172 c172 o172:=Fun.mkA Tryz.func172 Tryz.ntmps172
theorem F155:Fun Tryz.prog 155 9 v155 c155 o155:=Fun.mkA Tryz.func155 Tryz.ntmps155
theorem F156:Fun Tryz.prog 156 9 v156 c156 o156:=Fun.mkA Tryz.func156 Tryz.ntmps156
theorem F158:Fun Tryz.prog 158 10 v158 c158 o158:=Fun.mkA Tryz.func158 Tryz.ntmps158
theorem F181:Fun Tryz.prog 181 27 v181 c181 o181:=Fun.mkA Tryz.func181 Tryz.ntmps181
theorem F157:Fun Tryz.prog 157 36 v157 c157 o157:=Fun.mkA Tryz.func157 Tryz.ntmps157
theorem pz{α:Type}{P:Program}{f:FuncId}{args:Array Value}{G:Ks}{E:α→Kt→Prop}{et sz:Nat}{zs:List α}(hf:FnO P f args G [] (fun _ L' r=>ya E et sz zs L' r)):
  FnO P f args G [] (fun _ L' r=>∃ A c ys,r=.slice A zs.length c∧(zs.length≤c∧c≤maxLen)∧Cells E sz zs ys∧L'=[.row r et sz zs.length ys]):=fun L D =>
 (hf L D).gx fun v h' ⟨G',L',he,hg,ys,hc,hL⟩=>by
  subst he hL;exact(gL (.head _)).mono fun h' ⟨h1,A,c,h2,h3,h4⟩=>⟨G',_,h1,hg,A,c,ys,h2,⟨h3,h4⟩,hc,rfl⟩
def jQ:Sg:=⟨0,[]⟩
def yO(s:Sg)(L':Kv)(r:Value):Prop:=∃ u zc,r=.agg #[.int .i64 s.base,u]∧L'=[.row u 5 1 s.bytes.length zc]∧Cells UE 1 s.bytes zc
def si(p:Sg × Int)(L':Kv)(r:Value):Prop:=∃ u zc,r=.tuple #[.agg #[.int .i64 p.1.base,u],.int .i64 p.2]∧L'=[.row u 5 1 p.1.bytes.length zc]∧Cells UE 1 p.1.bytes zc
def ox(n:Int):Bool:=decide (1≤n) && decide (n≤4096)
theorem tX(n:Int)(G:Ks):FnS Tryz.prog 155 #[.int .i64 n] G (.bool (inO n)):=by
 refine F155.fnS (by simp) (dY ?_);unfold c155;intros;refine gR 0 0 c155r0.eq_1 ?_;intros;refine gR 3 9 c155r1.eq_1 ?_;refine gdD (fun h=>?_) (fun h=>?_)
 ·refine sI ?_;intros;refine rW ?_;rw[inO,decide_eq_true h,Bool.true_and]
 ·refine sI ?_;intros;refine rW ?_;rw[inO,decide_eq_false h,Bool.false_and]
theorem oG(n:Int)(G:Ks):FnS Tryz.prog 156 #[.int .i64 n] G (.bool (ox n)):=by
 refine F156.fnS (by simp) (dY ?_);unfold c156;intros;refine gR 0 0 c156r0.eq_1 ?_;intros;refine gR 3 9 c156r1.eq_1 ?_;refine gdD (fun h=>?_) (fun h=>?_)
 ·refine sI ?_;intros;refine rW ?_;rw[ox,decide_eq_true h,Bool.true_and]
 ·refine sI ?_;intros;refine rW ?_;rw[ox,decide_eq_false h,Bool.false_and]
def vi(base:Int):Sg × Int:=if inO base=true then(⟨base,[]⟩,0)else(jQ,1)
theorem Fw(base:Int)(G:Ks):FnO Tryz.prog 158 #[.int .i64 base] G [] (fun _ L' r=>si (vi base) L' r):=by
 refine F158.fnO (by simp) dS (dY ?_);unfold c158;intros;refine gR 0 0 c158r0.eq_1 ?_;intros;refine gR 4 6 c158r1.eq_1 ?_;refine fK (tX _ _ _ _) ?_;intros;refine gC ?_;refine gb (fun h=>?_) (fun h=>?_)
 ·have h:¬ inO base=true:=by simpa using h
  intros;refine gR 7 8 c158r2.eq_1 ?_;intros;refine dT ?_;refine dU (eA none 5 1) ?_;refine ea (ee _ rfl (.cons_cons _ KL) (dW dS) ?_);rw[vi,if_neg h];exact⟨_,[],rfl,rfl,.nil⟩
 ·have h:inO base=true:=by simpa using h
  intros;refine gN ?_;intros;refine gR 8 10 c158r3.eq_1 ?_;intros;refine dT ?_;refine dU (eA none 5 1) ?_;refine ea (ee _ rfl (.cons_cons _ KL) (dW dS) ?_);rw[vi,if_pos h];exact⟨_,[],rfl,rfl,.nil⟩
theorem CK(n:Nat)(G:Ks)(hn:n≤1000000):FnO Tryz.prog 181 #[.slice none 0 0,.int .i64 (n:Int)] G [] (fun _ L' r=>o9 [] L' r):=by
 refine F181.fnO (by simp) dS (dY ?_);unfold c181;have w1:IntKind.i64.wrap ((n:Int) - IntKind.i64.wrap (0 - 0))=(n:Int):=by simp only[IntKind.wrap_i64];omega
 have h0:decide ((n:Int) < 0)=false:=decide_eq_false (by omega);intros;refine gR 0 0 c181r0.eq_1 ?_;intros;refine gR2 5 6 c181r1.eq_1 @h0 ?_;intros;refine gC ?_;intros;refine gN ?_;intros;refine gR2 8 15 c181r2.eq_1 @w1 ?_;intros;refine gR 15 16 c181r3.eq_1 ?_;intros;refine dU (eA none 5 1) ?_
 refine eL (fun e h=>∃ A c m zc Lh,e 0=.slice A 0 c∧h=⟨G,Lh,[]⟩∧[Kx.Item.row (.slice A m c) 5 1 m zc].Sublist Lh) ?_ ?_
 ·intros;refine gC ?_;refine gb (fun h1=>?_) (fun h1=>?_)
  ·have h1:=KM h1;intros;refine gR 17 26 c181r4.eq_1 ?_;refine⟨by omega,?_⟩;refine⟨n,⟨rfl,rfl⟩,⟨by omega,by omega,by unfold maxLen;omega⟩,?_⟩;intro g c zs hg;refine sI ?_;refine⟨by omega,?_⟩;refine sI ?_;intros;refine dT ?_;exact eF ⟨_,c,n,zs,_,rfl,rfl,.cons_cons _ KL⟩
  ·intros;refine dT ?_;exact eF ⟨none,0,0,[],_,eE,rfl,List.Sublist.refl _⟩
 rintro e h ⟨A,c,m,zc,Lh,e0,rfl,hsub⟩;refine dV [0] ?_;refine sJ @e0 ?_;intros;intros;try refine ed ?_
 refine dU (dX hsub) ?_;refine dU (nJ (L1:=[]) (L2:=[]) (m:=0) (Nat.zero_le _)) ?_;intros;refine gR 26 27 c181r5.eq_1 ?_;intros;refine dT ?_;refine ea (ee _ rfl KJ (dW dS) ?_);refine⟨[],.nil,?_⟩;simp;rfl
theorem tz(s:Sg)(n:Nat)(cs:Kt)(G:Ks)(hs:SE G s cs)(hb:s.bytes.length≤1000000)(hn:n≤s.bytes.length):
  FnO Tryz.prog 172 #[.agg cs.toArray,.int .i64 (n:Int)] G [] (fun _ L' r=>yO ⟨s.base,s.bytes.take n⟩ L' r):=by
 obtain⟨A,c,rfl,hl,hi⟩:=hs;refine F172.fnO (by simp) dS (dY ?_);have hpre:=SlV.pre n hl hn;obtain⟨A0,c0,he,h1,h2,h3⟩:=hl;cases he;unfold c172 gh;intros;refine gR 0 0 c172r0.eq_1 ?_;intros;refine dT ?_;refine Aq _ KJ (by decide) ?_;refine sJ c172r1.eq_1 ?_;refine⟨by omega,?_⟩;refine(pz (o6 _ _ G hpre (by simp;omega)) _ _).mono ?_;rintro r h' ⟨G1,L',rfl,hg1,A1,c1,ys,rfl,-,hys,rfl⟩
 refine⟨ef hg1 (.cons _ KJ),?_⟩;refine sI ?_;refine sJ c172r2.eq_1 ?_;intros;refine dT ?_;refine ea (ee _ rfl (.cons_cons _ KL) (dW dS) ?_);exact⟨_,ys,rfl,rfl,hys⟩
def EBs(G:Ks)(l:KD)(cs:Kt):Prop:=∃ v,cs=[v]∧SB G v l
theorem re{ll:List (KD)}{k:Nat}{l:KD}(h:ll[k]?=some l):(ll.take (k+1)).flatten=(ll.take k).flatten++l:=by
 rw[List.take_add_one,h];simp
theorem wx(ll:List (KD))(k:Nat):(ll.take k).flatten.length≤ll.flatten.length:=by
 conv=>rhs;rw[← List.take_append_drop k ll,List.flatten_append,length_append]
 omega
theorem wG(ll:List (KD))(v:Value)(G:Ks)(hl:SlV G (EBs G) 1 v ll)(hb:ll.flatten.length≤1000000):FnO Tryz.prog 157 #[v] G [] (fun _ L' r=>o9 ll.flatten L' r):=by
 obtain⟨A,c,rfl,hc,hm,hA⟩:=hl;refine F157.fnO (by simp) dS (dY ?_);unfold c157;intros;refine gR 0 0 c157r0.eq_1 ?_;intros;refine gR 0 0 c157r1.eq_1 ?_;intros;refine gR 0 0 c157r2.eq_1 ?_;intros;intros;try refine ed ?_
 refine eL (fun e h=>e 3=.int .i64 ((ll.flatten.length:Nat):Int)∧e 0=.slice A ll.length c∧h=⟨G,[],[]⟩) ?_ ?_
 ·intros;refine dT ?_;refine ej (fun e h=>∃ k:Nat,k≤ll.length∧e 11=.int .i64 k∧e 10=.int .i64 ll.length∧e 9=.slice A ll.length c∧e 0=.slice A ll.length c∧e 3=.int .i64 (((ll.take k).flatten.length:Nat):Int)∧h=⟨G,[],[]⟩) (fun e h=>ll.length - iv (e 11)) ?_ ?_
  ·exact⟨0,Nat.zero_le _,eE,eE,eE,eE,rfl,rfl⟩
  rintro e h ⟨k,hk,e11,e10,e9,e0,e3,rfl⟩;refine dV [0,3,9,10,11] ?_;refine sJ5 @e0 @e3 @e9 @e10 @e11 ?_;intros;refine gR 0 0 c157r3.eq_1 ?_;intros;refine gC ?_;refine gb (fun ht=>?_) (fun ht=>?_)
  ·have ht:k < ll.length:=by have:=KM ht;omega
   have hw:=eW k c (by omega) hm;obtain⟨x,hx⟩:∃ x,ll[k]?=some x:=⟨ll[k],getElem?_eq_getElem (by omega)⟩;have h1:=re hx;have h2:=wx ll (k+1);have h3:(ll.take (k+1)).flatten.length=(ll.take k).flatten.length+x.length:=by rw[h1,length_append]
   generalize hn1:(ll.take (k+1)).flatten.length=n1 at *;generalize (ll.take k).flatten.length=n0 at *;have hw2:IntKind.i64.wrap ((n0:Int)+(x.length:Int))=(n1:Int):=by rw[ei] <;> omega
   have hneg:decide ((n1:Int) < 0)=false:=decide_eq_false (by omega);intros;refine gN ?_;intros;refine gR 13 15 c157r4.eq_1 ?_;refine hA.x_l1 hx rfl rfl ?_;rintro a1 ha1 u ⟨u',hu,B,d,rfl,-⟩;cases hu;refine sI ?_;intros;refine gR2 15 19 c157r5.eq_1 @hw2 ?_;intros;refine gR2 19 20 c157r6.eq_1 @hneg ?_;intros;refine gC ?_;intros;refine gN ?_;intros;refine gR2 22 23 c157r7.eq_1 @hw ?_
   intros;refine dT ?_;refine eF ⟨⟨k+1,by omega,eE,eE,eE,eE,(eJ @hn1),rfl⟩,?_⟩;refine sI ?_;omega
  ·have ht:k=ll.length:=by have:=KN ht;omega
   subst ht;have htk:ll.take ll.length=ll:=take_length;refine eg ?_;refine sI ?_;intros;refine gN ?_;exact eF ⟨(eJ @htk),eE,rfl⟩
 rintro e h ⟨e3,e0,rfl⟩;refine dV [0,3] ?_;refine sJ2 @e0 @e3 ?_;intros;intros;refine gR 23 25 c157r8.eq_1 ?_;refine(pz (CK ll.flatten.length G hb) _ []).mono ?_;rintro r h' ⟨G1,L',rfl,hg1,A1,c1,ys,rfl,-,hys,rfl⟩;refine sI ?_;intros;refine gR 0 0 c157r9.eq_1 ?_;intros;have hA1:=hA.le hg1 (E':=EBs G1) fun _ _ ⟨u,h1,h2⟩=>⟨u,h1,SB.le h2 hg1⟩
 refine eL (fun e h=>∃ u zc,Cells UE 1 ll.flatten zc∧e 6=u∧h=⟨G1,[.row u 5 1 ll.flatten.length zc],[]⟩) ?_ ?_
 ·intros;refine dT ?_;refine ej (fun e h=>∃ (k:Nat) (u:Value) (zc:Kt),(k≤ll.length∧Cells UE 1 (ll.take k).flatten zc)∧e 27=.int .i64 k∧e 26=.int .i64 ll.length∧e 25=.slice A ll.length c∧e 6=u∧h=⟨G1,[.row u 5 1 (ll.take k).flatten.length zc],[]⟩) (fun e h=>ll.length - iv (e 27)) ?_ ?_
  ·exact⟨0,_,ys,⟨Nat.zero_le _,hys⟩,eE,eE,eE,eE,rfl⟩
  rintro e h ⟨k,u,zc,⟨hk,hzc⟩,e27,e26,e25,e6,rfl⟩;refine dV [6,25,26,27] ?_;refine sJ4 @e6 @e25 @e26 @e27 ?_;intros;refine gR 0 0 c157r10.eq_1 ?_;intros;refine gC ?_;refine gb (fun ht=>?_) (fun ht=>?_)
  ·have ht:k < ll.length:=by have:=KM ht;omega
   have hw:=eW k c (by omega) hm;obtain⟨x,hx⟩:∃ x,ll[k]?=some x:=⟨ll[k],getElem?_eq_getElem (by omega)⟩;have h1:=re hx;have h2:=wx ll (k+1);have h3:(ll.take (k+1)).flatten.length=(ll.take k).flatten.length+x.length:=by rw[h1,length_append]
   intros;refine gN ?_;intros;refine gR 29 31 c157r11.eq_1 ?_;refine hA1.x_l1 hx rfl rfl ?_;rintro a1 ha1 u1 ⟨u',hu,hsb⟩;cases hu;refine sI ?_;intros;refine gR 31 34 c157r12.eq_1 ?_;refine j5 (L1:=[]) (.inl rfl) hsb rfl UE1 (by unfold maxLen;omega) fun ys1 A2 c2 hc2=>?_
   have hh:=hzc.app hc2;rw[← h1]at hh;rw[← h3];refine sI ?_;intros;refine gN ?_;intros;refine gR2 34 35 c157r13.eq_1 @hw ?_;intros;refine dT ?_;refine eF ⟨⟨k+1,_,_,⟨by omega,hh⟩,eE,eE,eE,eE,rfl⟩,?_⟩;refine sI ?_;omega
  ·have ht:k=ll.length:=by have:=KN ht;omega
   subst ht;rw[take_length]at hzc ⊢;refine eg ?_;refine sI ?_;intros;refine gN ?_;exact eF ⟨u,zc,hzc,eE,rfl⟩
 rintro e h ⟨u,zc,hzc,e6,rfl⟩;refine dV [6] ?_;refine sJ @e6 ?_;intros;intros;refine gR 35 36 c157r14.eq_1 ?_;intros;refine dT ?_;refine ea (ee _ rfl KJ (dW dS) ?_);exact⟨zc,hzc,rfl⟩
theorem F121:Fun Tryz.prog 121 69 v121 c121 o121:=Fun.mkA Tryz.func121 Tryz.ntmps121
def jM(s:Sg)(x:Batch)(limit:Int):Sg × Int :=
 if gk s=s.bytes.length∧inO s.base=true∧ox limit=true then
  if fM x=0 then
   if x.base < kf s then(jQ,71)
   else if limit < ((s.bytes.length+(eu x).length:Nat):Int)then(jQ,70)
   else(⟨s.base,s.bytes++eu x⟩,0)
  else(jQ,fM x)
 else(jQ,1)
theorem Ff{s:Sg}{x:Batch}{limit:Int}(h:¬ (gk s=s.bytes.length∧inO s.base=true∧ox limit=true)):jM s x limit=(jQ,1):=if_neg h
theorem EI{s:Sg}{x:Batch}{limit:Int}(h:gk s=s.bytes.length∧inO s.base=true∧ox limit=true)(h1:¬ fM x=0):jM s x limit=(jQ,fM x):=by rw[jM,if_pos h,if_neg h1]
theorem ES{s:Sg}{x:Batch}{limit:Int}(h:gk s=s.bytes.length∧inO s.base=true∧ox limit=true)(h1:fM x=0)(h2:x.base < kf s):jM s x limit=(jQ,71):=by rw[jM,if_pos h,if_pos h1,if_pos h2]
theorem BM{s:Sg}{x:Batch}{limit:Int}(h:gk s=s.bytes.length∧inO s.base=true∧ox limit=true)(h1:fM x=0)(h2:¬ x.base < kf s)(h3:limit < ((s.bytes.length+(eu x).length:Nat):Int)):jM s x limit=(jQ,70):=by rw[jM,if_pos h,if_pos h1,if_neg h2,if_pos h3]
theorem xZ{s:Sg}{x:Batch}{limit:Int}(h:gk s=s.bytes.length∧inO s.base=true∧ox limit=true)(h1:fM x=0)(h2:¬ x.base < kf s)(h3:¬ limit < ((s.bytes.length+(eu x).length:Nat):Int)):jM s x limit=(⟨s.base,s.bytes++eu x⟩,0):=by rw[jM,if_pos h,if_pos h1,if_neg h2,if_neg h3]
theorem lM(s:Sg):gk s≤s.bytes.length:=by
 obtain⟨r,h⟩:=fD s;exact h.len.2
theorem rH(s:Sg)(x:Batch)(limit:Int)(cs ds:Kt)(G:Ks)(hs:SE G s cs)(hb:s.bytes.length≤100000)(hx:BE G x ds)(hi:I64 limit):
  FnO Tryz.prog 121 #[.agg cs.toArray,.agg ds.toArray,.int .i64 limit] G [] (fun _ L' r=>si (jM s x limit) L' r):=by
 have hscan:=pi s cs G hs (by omega);have hput:=pO x ds G hx;have hs0:=hs;have hx0:=hx;obtain⟨A,c,rfl,hl,hib⟩:=hs;obtain⟨B,d,rfl,-⟩:=hx;have hgl:=lM s;refine F121.fnO (by simp) dS (dY ?_);unfold c121;unfold gh at hscan hs0 ⊢;unfold fu at hput hx0 ⊢;intros;refine gR 0 0 c121r0.eq_1 ?_;intros;refine gR 12 17 c121r1.eq_1 ?_;refine(hscan _ _).mono ?_;rintro r h' ⟨G1,L',rfl,hg1,u,zc,rfl,-,rfl⟩
 refine sI ?_;intros;refine dU (dX (.cons _ KJ)) ?_;intros;try refine ed ?_
 have hbad:∀ (fr:KA) (e:Env) (X:Kv) (Y:Kt),¬ (gk s=s.bytes.length∧inO s.base=true∧ox limit=true)→go none Tryz.prog 69 v121.1 v121.2 (fI o121 fun v h=>si (jM s x limit) h.L v) (Td.s ((SC.reg false c121r3).seq .ret) :: fr) e ⟨G1,.reg 6 [.int .i64 0,.slice none 0 0] :: X,[]⟩:=fun fr e X Y hn=>by
  intros;refine gR 33 34 c121r3.eq_1 ?_;intros;refine dT ?_;refine dU (eA none 5 1) ?_;refine ea (ee _ rfl (.cons_cons _ KL) (dW dS) ?_);rw[Ff hn];exact⟨_,[],rfl,rfl,.nil⟩
 intros;refine gR 17 32 c121r2.eq_1 ?_;refine gd (fun k1=>?_) (fun k1=>?_)
 ·refine sI ?_;intros;refine gC ?_;exact hbad _ _ _ [] fun h=>KM k1 (by rw[h.1])
 have k1:gk s=s.bytes.length:=by have:=KN k1;omega
 refine sI ?_;refine fK (tX _ _ _ _) ?_;refine gd (fun k2=>?_) (fun k2=>?_)
 ·refine sI ?_;intros;refine gC ?_;exact hbad _ _ _ [] fun h=>by rw[h.2.1]at k2;cases k2
 have k2:inO s.base=true:=by simpa using k2
 refine sI ?_;refine fK (oG _ _ _ _) ?_;intros;refine gC ?_;refine gb (fun k3=>?_) (fun k3=>?_)
 ·exact hbad _ _ _ [] fun h=>by rw[h.2.2]at k3;cases k3
 have k3:ox limit=true:=by simpa using k3
 clear hbad;have hok:gk s=s.bytes.length∧inO s.base=true∧ox limit=true:=⟨k1,k2,k3⟩;intros;refine gN ?_;have hput:=pO x _ G1 (BE.le hg1 hx0);intros;refine gR 34 39 c121r4.eq_1 ?_;refine(hput _ _).mono ?_;rintro r h' ⟨G2,L',rfl,hg2,w,rfl,ys,hys,rfl⟩;refine sI ?_;intros;try refine ed ?_
 refine eI (eh [] _ (by decide) hys) ?_;rintro h' ⟨G3,rfl,hg3,hv3⟩;have hg03:=hg1.trans (hg2.trans hg3);by_cases he:fM x=0;rotate_left
 ·rw[vV he]at hv3 ⊢;intros;refine gR 40 42 c121r5.eq_1 ?_;intros;refine gC ?_;refine gb (fun k4=>?_) (fun k4=>absurd (KN k4) (by simpa using he));intros;refine gR 42 44 c121r6.eq_1 ?_;intros;refine dT ?_;refine dU (eA none 5 1) ?_;refine ea (ee _ rfl (.cons_cons _ KL) (dW dS) ?_);rw[EI hok he];exact⟨_,[],rfl,rfl,.nil⟩
 rw[vK he]at hv3 ⊢;have hv3:SB G3 w (eu x):=hv3;have hbl:=(ir he).2;have hz:decide ((0:Int)≠0)=false:=by decide
 intros;refine gR2 40 42 c121r5.eq_1 @hz ?_;intros;refine gC ?_;intros;refine gN ?_;intros;refine dT ?_;refine lk _ KJ (by decide) ?_;refine sJ c121r7.eq_1 ?_;refine fK (vL s _ G3 (SE.le hg03 hs0) (by omega) _ _) ?_;intros;refine gC ?_;refine gbD (fun k5=>?_) (fun k5=>?_)
 ·intros;refine gR 50 51 c121r8.eq_1 ?_;intros;refine dT ?_;refine dU (eA none 5 1) ?_;refine ea (ee _ rfl (.cons_cons _ KL) (dW dS) ?_);rw[ES hok he k5];exact⟨_,[],rfl,rfl,.nil⟩
 have hw:IntKind.i64.wrap ((s.bytes.length:Int)+((eu x).length:Int))=((s.bytes.length+(eu x).length:Nat):Int):=by rw[ei] <;> omega
 have hsb3:=hv3;obtain⟨A3,c3,rfl,-⟩:=hv3;intros;refine gR2 53 60 c121r9.eq_1 @hw ?_;intros;refine gC ?_;refine gbD (fun k6=>?_) (fun k6=>?_)
 ·intros;refine gR 60 61 c121r10.eq_1 ?_;intros;refine dT ?_;refine dU (eA none 5 1) ?_;refine ea (ee _ rfl (.cons_cons _ KL) (dW dS) ?_);rw[BM hok he k5 k6];exact⟨_,[],rfl,rfl,.nil⟩
 have h0:=xZ hok he k5 k6;have hll:Cells (EBs G3) 1 [s.bytes,eu x] [.slice A s.bytes.length c,.slice A3 (eu x).length c3]:=.cons (cs:=[_]) ⟨_,rfl,SB.le hl hg03⟩ rfl (.one ⟨_,rfl,hsb3⟩ rfl);intros;refine gN ?_;intros;refine dT ?_;refine Aq _ KJ (by decide) ?_;refine sJ c121r11.eq_1 ?_;intro bk hbk;refine⟨ef KO (.cons _ KJ),?_⟩;refine fx F157.enters (eh [] _ (by decide) hll) ?_
 rintro h' ⟨G5,rfl,hg5,hv5⟩;refine(pz (wG [s.bytes,eu x] _ G5 (hv5.le (.refl _) fun _ _ ⟨v,h1,h2⟩=>⟨v,h1,SB.le h2 hg5⟩) (by simp;omega)) _ _).mono ?_;rintro r h' ⟨G6,L',rfl,hg6,A6,c6,zc6,rfl,-,hzc6,rfl⟩;have hfl:[s.bytes,eu x].flatten=s.bytes++eu x:=by simp
 rw[hfl]at hzc6 ⊢;refine⟨ef (hg5.trans hg6) (.cons _ KJ),?_⟩;refine sI ?_;refine sJ c121r12.eq_1 ?_;intros;refine dT ?_;refine ea (ee _ rfl (.cons_cons _ KL) (dW dS) ?_);rw[h0];exact⟨_,zc6,rfl,rfl,hzc6⟩
theorem F123:Fun Tryz.prog 123 44 v123 c123 o123:=Fun.mkA Tryz.func123 Tryz.ntmps123
theorem F143:Fun Tryz.prog 143 19 v143 c143 o143:=Fun.mkA Tryz.func143 Tryz.ntmps143
theorem F190:Fun Tryz.prog 190 20 v190 c190 o190:=Fun.mkA Tryz.func190 Tryz.ntmps190
def GW(p:Sg × Int)(G:Ks)(r:Value):Prop:=∃ A c,r=.tuple #[.agg #[.int .i64 p.1.base,.slice A p.1.bytes.length c],.int .i64 p.2]∧SB G (.slice A p.1.bytes.length c) p.1.bytes
theorem AI{P:Program}{f:FuncId}{args:Array Value}{G:Ks}{p:Sg × Int}(hf:FnO P f args G [] (fun _ L' r=>si p L' r)):
  FnO P f args G [] (fun _ L' r=>∃ A c zc,r=.tuple #[.agg #[.int .i64 p.1.base,.slice A p.1.bytes.length c],.int .i64 p.2]∧(p.1.bytes.length≤c∧c≤maxLen)∧L'=[.row (.slice A p.1.bytes.length c) 5 1 p.1.bytes.length zc]∧Cells UE 1 p.1.bytes zc):=fun L D =>
 (hf L D).gx fun v h' ⟨G',L',he,hg,u,zc,h1,h2,h3⟩=>by
  subst he h2;refine(gL (.head _)).mono fun h' ⟨e1,A,c,e2,e3,e4⟩=>?_
  subst e2;exact⟨G',_,e1,hg,A,c,zc,h1,⟨e3,e4⟩,rfl,h3⟩
theorem mo{P:Program}{f:FuncId}{args:Array Value}{G:Ks}{p:Sg × Int}(hf:FnO P f args G [] (fun _ L' r=>si p L' r)):FnD P f args G (GW p) :=
 FnO.fnD (L1:=[]) (AI hf) fun G' L' v ⟨A,c,zc,h1,_,h2,h3⟩ _ L D=>by
  subst h2;exact(kA (by decide) h3).mono fun h' ⟨G2,e1,e2,e3⟩=>⟨G2,e1,e2,A,c,h1,e3⟩
theorem pJ{P:Program}{f:FuncId}{args:Array Value}{G:Ks}{s:Sg}(hf:FnO P f args G [] (fun _ L' r=>yO s L' r)):
  FnO P f args G [] (fun _ L' r=>∃ A c zc,r=.agg #[.int .i64 s.base,.slice A s.bytes.length c]∧(s.bytes.length≤c∧c≤maxLen)∧L'=[.row (.slice A s.bytes.length c) 5 1 s.bytes.length zc]∧Cells UE 1 s.bytes zc):=fun L D =>
 (hf L D).gx fun v h' ⟨G',L',he,hg,u,zc,h1,h2,h3⟩=>by
  subst he h2;refine(gL (.head _)).mono fun h' ⟨e1,A,c,e2,e3,e4⟩=>?_
  subst e2;exact⟨G',_,e1,hg,A,c,zc,h1,⟨e3,e4⟩,rfl,h3⟩
def ofL(limit:Int):Sg→KE→Sg × Int
 | s,[]=>(s,0)
 | s,b :: bs=>if (jM s b limit).2=0 then ofL limit (jM s b limit).1 bs else(jQ,(jM s b limit).2)
def ofS(base:Int)(l:KE)(limit:Int):Sg × Int:=if (vi base).2=0∧ox limit=true then ofL limit (vi base).1 l else(jQ,1)
theorem xv{s:Sg}{x:Batch}{limit:Int}(h:(jM s x limit).2=0):(gk s=s.bytes.length∧inO s.base=true∧ox limit=true)∧fM x=0∧kf s≤x.base∧((s.bytes.length+(eu x).length:Nat):Int)≤limit∧jM s x limit=(⟨s.base,s.bytes++eu x⟩,0):=by
 unfold jM at h ⊢;split at h <;> rename_i h1
 ·split at h <;> rename_i h2
  ·split at h <;> rename_i h3
   ·cases h
   ·split at h <;> rename_i h4
    ·cases h
    ·exact⟨h1,h2,by omega,by omega,by rw[if_pos h1,if_pos h2,if_neg h3,if_neg h4]⟩
  ·exact absurd h h2
 ·cases h
theorem xH{s:Sg}{x:Batch}{limit:Int}(h:¬ (jM s x limit).2=0):(jM s x limit).1=jQ:=by
 unfold jM at h ⊢;split at h <;> rename_i h1
 ·split at h <;> rename_i h2
  ·split at h <;> rename_i h3
   ·rw[if_pos h1,if_pos h2,if_pos h3]
   ·split at h <;> rename_i h4
    ·rw[if_pos h1,if_pos h2,if_neg h3,if_pos h4]
    ·exact absurd rfl h
  ·rw[if_pos h1,if_neg h2]
 ·rw[if_neg h1]
theorem tl{n:Int}:ox n=true↔1≤n∧n≤4096:=by simp[ox]
theorem rK{p:Int}{G:Ks}:GW (jQ,p) G (.tuple #[.agg #[.int .i64 0,.slice none 0 0],.int .i64 p]):=⟨none,0,rfl,SB.nil⟩
theorem Hc(base limit:Int)(l:KE)(v:Value)(G:Ks)(hl:SlV G (BE G) 10 v l)(hbi:I64 base)(hli:I64 limit):FnD Tryz.prog 123 #[.int .i64 base,v,.int .i64 limit] G (GW (ofS base l limit)):=by
 obtain⟨A,c,rfl,hc,hm,hA⟩:=hl;refine F123.fnD (by simp) (dY ?_);unfold c123;intros;refine gR 0 0 c123r0.eq_1 ?_;intros;refine gR 12 17 c123r1.eq_1 ?_;refine(mo (Fw base G) _ _).mono ?_;rintro r h' ⟨G1,rfl,hg1,A1,c1,rfl,hs1⟩;refine sI ?_
 have hbad:∀ (fr:KA) (e:Env) (X:Kv),¬ ((vi base).2=0∧ox limit=true)→go none Tryz.prog 44 v123.1 v123.2 (fI o123 fun v h=>GW (ofS base l limit) h.G v) (Td.s ((SC.reg false c123r3).seq .ret) :: fr) e ⟨G1,[.reg 8 [.int .i64 (vi base).1.base,.slice A1 (vi base).1.bytes.length c1],.reg 6 [.int .i64 0,.slice none 0 0]],[]⟩:=fun fr e X hn=>by
  intros;refine gR 24 25 c123r3.eq_1 ?_;intros;refine rW ?_;rw[ofS,if_neg hn];exact rK
 intros;refine gR 17 23 c123r2.eq_1 ?_;refine gd (fun k1=>?_) (fun k1=>?_)
 ·refine sI ?_;intros;refine gC ?_;exact hbad _ _ [] fun h=>KM k1 h.1
 have k1:(vi base).2=0:=by simpa using k1
 refine sI ?_;refine fK (oG _ _ _ _) ?_;intros;refine gC ?_;refine gb (fun k2=>?_) (fun k2=>?_)
 ·exact hbad _ _ [] fun h=>by rw[h.2]at k2;cases k2
 have k2:ox limit=true:=by simpa using k2
 clear hbad;have hlim:=tl.1 k2;have hnew:vi base=(⟨base,[]⟩,0):=by
  unfold vi at k1 ⊢;split at k1
  ·rename_i h;rw[if_pos h]
  ·cases k1
 have hof:ofS base l limit=ofL limit ⟨base,[]⟩ l:=by rw[ofS,if_pos ⟨k1,k2⟩,hnew]
 rw[hnew]at hs1 ⊢;rw[hof];clear hof hnew k1;dsimp only at hs1 ⊢;intros;refine gN ?_;intros;refine gR 0 0 c123r4.eq_1 ?_;intros;refine eL (fun e h=>∃ (s:Sg) (G':Ks) (A':Ky) (c':Nat),(Gle G1 G'∧SB G' (.slice A' s.bytes.length c') s.bytes∧ofL limit ⟨base,[]⟩ l=(s,0))∧h=⟨G',[.reg 8 [.int .i64 s.base,.slice A' s.bytes.length c'],.reg 6 [.int .i64 0,.slice none 0 0]],[]⟩) ?_ ?_
 ·intros;refine dT ?_
  refine ej (fun e h=>∃ (k:Nat) (s:Sg) (G':Ks) (A':Ky) (c':Nat),(k≤l.length∧Gle G1 G'∧SB G' (.slice A' s.bytes.length c') s.bytes∧s.base=base∧s.bytes.length≤4096∧ofL limit ⟨base,[]⟩ l=ofL limit s (l.drop k))∧e 27=.int .i64 k∧e 26=.int .i64 l.length∧e 25=.slice A l.length c∧e 2=.int .i64 limit∧h=⟨G',[.reg 8 [.int .i64 s.base,.slice A' s.bytes.length c'],.reg 6 [.int .i64 0,.slice none 0 0]],[]⟩) (fun e h=>l.length - iv (e 27)) ?_ ?_
  ·exact⟨0,⟨base,[]⟩,G1,A1,c1,⟨Nat.zero_le _,.refl _,hs1,rfl,by simp,rfl⟩,eE,eE,eE,eE,rfl⟩
  rintro e h ⟨k,s,G2,A2,c2,⟨hk,hg2,hs2,hsb,hsl,hof⟩,e27,e26,e25,e2,rfl⟩;refine dV [2,25,26,27] ?_;refine sJ4 @e2 @e25 @e26 @e27 ?_;intros;refine gR 0 0 c123r5.eq_1 ?_;intros;refine gC ?_;refine gb (fun ht=>?_) (fun ht=>?_)
  ·have ht:k < l.length:=by have:=KM ht;omega
   have hw:=eW k c (by omega) hm;have hg02:=hg1.trans hg2;obtain⟨x,hx⟩:∃ x,l[k]?=some x:=⟨l[k],getElem?_eq_getElem (by omega)⟩;have hA2:=hA.le hg02 (E':=BE G) KO;have hof2:ofL limit s (l.drop k)=if (jM s x limit).2=0 then ofL limit (jM s x limit).1 (l.drop (k+1))else(jQ,(jM s x limit).2):=by
    obtain⟨h1,h2⟩:=List.getElem?_eq_some_iff.1 hx;rw[List.drop_eq_getElem_cons h1,h2,ofL]
   rw[hof2]at hof;intros;refine gN ?_;intros;refine gR 29 31 c123r6.eq_1 ?_;refine hA2.x_ld hx rfl rfl ?_;rintro a1 ha1 cs hbe;have hbe:=BE.le hg02 hbe;have happ:=rH s x limit _ cs G2 ⟨A2,c2,rfl,hs2,by rw[hsb];exact hbi⟩ (by omega) hbe hli;obtain⟨B,d,rfl,-⟩:=hbe;unfold fu gh at happ;unfold fu;refine sI ?_;intros;refine gR 31 38 c123r7.eq_1 ?_;refine(mo happ _ _).mono ?_
   rintro r h' ⟨G3,rfl,hg3,A3,c3,rfl,hs3⟩;have hok:=@xv s x limit;have hno:=@xH s x limit;generalize jM s x limit=q at hok hno hs3 hof;obtain⟨s3,er⟩:=q;dsimp only at hok hno hs3 hof;refine sI ?_;intros;refine gR 38 39 c123r8.eq_1 ?_;intros;refine gC ?_;refine gb (fun k3=>?_) (fun k3=>?_)
   ·have k3:=KM k3;intros;refine gR 40 42 c123r9.eq_1 ?_;intros;refine rW ?_;rw[hof,if_neg k3];exact rK
   ·have k3:er=0:=by simpa using k3
    subst k3;obtain⟨-,-,-,h4,h5⟩:=hok rfl;have h5:s3=⟨s.base,s.bytes++eu x⟩:=congrArg Prod.fst h5;rw[if_pos rfl]at hof;have hl3:s3.bytes.length≤4096:=by rw[h5];simp only[length_append];omega
    have hb3:s3.base=base:=by rw[h5];exact hsb
    intros;refine gN ?_;refine dU (dX (L':=[.reg 8 [.int .i64 s3.base,.slice A3 s3.bytes.length c3],.reg 6 [.int .i64 0,.slice none 0 0]]) (.cons _ KJ)) ?_;intros;refine gR2 42 43 c123r10.eq_1 @hw ?_;intros;refine dT ?_;refine eF ⟨⟨k+1,s3,G3,A3,c3,⟨by omega,hg2.trans hg3,hs3,hb3,hl3,hof⟩,eE,eE,eE,eE,rfl⟩,?_⟩;refine sI ?_;omega
  ·have ht:k=l.length:=by have:=KN ht;omega
   subst ht;rw[List.drop_length,ofL]at hof;refine eg ?_;refine sI ?_;intros;refine gN ?_;exact eF ⟨s,G2,A2,c2,⟨hg2,hs2,hof⟩,rfl⟩
 rintro e h ⟨s,G2,A2,c2,⟨hg2,hs2,hof⟩,rfl⟩;intros;intros;refine gR 43 44 c123r11.eq_1 ?_;intros;refine rW ?_;rw[hof];exact⟨A2,c2,rfl,hs2⟩
def m8(s:Sg):Sg × Int:=(⟨s.base,s.bytes.take (gk s)⟩,(s.bytes.length:Int) - (gk s:Int))
theorem Gd(s:Sg)(cs:Kt)(G:Ks)(hs:SE G s cs)(hb:s.bytes.length≤1000000):FnO Tryz.prog 143 #[.agg cs.toArray] G [] (fun _ L' r=>si (m8 s) L' r):=by
 have hscan:=pi s cs G hs hb;have hs0:=hs;obtain⟨A,c,rfl,hl,hib⟩:=hs;have hgl:=lM s;refine F143.fnO (by simp) dS (dY ?_);unfold c143;unfold gh at hscan hs0 ⊢;have hw:IntKind.i64.wrap ((s.bytes.length:Int) - (gk s:Int))=(s.bytes.length:Int) - (gk s:Int):=by rw[ei] <;> omega
 intros;refine gR 0 0 c143r0.eq_1 ?_;intros;refine gR 6 11 c143r1.eq_1 ?_;refine(hscan _ _).mono ?_;rintro r h' ⟨G1,L',rfl,hg1,u,zc,rfl,-,rfl⟩;refine sI ?_;intros;refine dU (dX (.cons _ KJ)) ?_;intros;refine dT ?_;refine qe _ (.cons _ KJ) (by decide) ?_;refine sJ2 c143r2.eq_1 @hw ?_;refine(pJ (tz s (gk s) _ G1 (SE.le hg1 hs0) hb hgl) _ _).mono ?_
 rintro r h' ⟨G2,L',rfl,hg2,A2,c2,zc2,rfl,-,rfl,hzc2⟩;refine⟨ef hg2 (.cons _ (.cons _ KJ)),?_⟩;refine sI ?_;refine⟨ef hg2 (.cons _ (.cons _ KJ)),?_⟩;refine sI ?_;intros;refine dT ?_;refine ea (ee _ rfl (.cons_cons _ KL) (dW dS) ?_);exact⟨_,zc2,rfl,rfl,hzc2⟩
def Es(off:Int)(b:Batch):Bool:=decide (b.last < off)
def BV(s:Sg)(off:Int):Sg:=⟨s.base,s.bytes.take (fN ((fi s).takeWhile (Es off))).length⟩
theorem F5{α:Type}{p:α→Bool}:∀ {l:List α} {k:Nat} {x:α},(∀ y∈l.take k,p y=true)→l[k]?=some x→p x=false→l.takeWhile p=l.take k
 | [],_,_,_,h,_=>by simp at h
 | y :: l,0,x,_,h,hp=>by
  simp at h;subst h;rw[List.takeWhile_cons,if_neg (by rw[hp];simp)];rfl
 | y :: l,k+1,x,ha,h,hp=>by
  rw[List.takeWhile_cons,if_pos (ha y (by simp)),List.take_succ_cons,F5 (k:=k) (fun z hz=>ha z (by rw[List.take_succ_cons];exact .tail _ hz)) (by simpa using h) hp]
theorem Bz{α:Type}{p:α→Bool}:∀ {l:List α},(∀ y∈l,p y=true)→l.takeWhile p=l
 | [],_=>rfl
 | y :: l,h=>by rw[List.takeWhile_cons,if_pos (h y (.head _)),Bz fun z hz=>h z (.tail _ hz)]
theorem Ge(s:Sg)(off:Int)(cs:Kt)(G:Ks)(hs:SE G s cs)(hb:s.bytes.length≤1000000)(ho:I64 off):FnO Tryz.prog 190 #[.agg cs.toArray,.int .i64 off] G [] (fun _ L' r=>yO (BV s off) L' r):=by
 have hs0:=hs;obtain⟨A,c,rfl,hl,hi⟩:=hs;refine F190.fnO (by simp) dS (dY ?_);unfold c190;unfold gh at hs0 ⊢;intros;refine gR 0 0 c190r0.eq_1 ?_;intro b2 hb2 b3 hb3 b4 hb4;intros;refine dT ?_;refine eI (eP [_,_] _) ?_;rintro h' ⟨G1,rfl,hg1,f2⟩;refine eI (eP [_] _) ?_;rintro h' ⟨G2,rfl,hg2,f3⟩;have f2:=fun j u hu=>em hg2 (f2 j u hu)
 have e3:=f3 0 _ rfl;rw[eV]at e3;have hg02:=hg1.trans hg2;intros;refine gR 0 0 c190r1.eq_1 ?_;intro b5 hb5;refine ek [] [_] rfl (by simp) ⟨rfl,rfl⟩ ?_;refine sI ?_;intros;refine gR 8 9 c190r2.eq_1 ?_;refine⟨_,⟨_,[.int .i64 s.base,.slice A s.bytes.length c],rfl,rfl,rfl,fun j u hu=>.g (f2 j u hu)⟩,?_⟩;refine sI ?_;refine(rO s _ G2 (SE.le hg02 hs0) hb _ _).mono ?_;rintro r h' ⟨G3,rfl,hg3,b,rfl,hit⟩
 obtain⟨rr,hsc⟩:=fD s;have hcut:BV s off=⟨s.base,s.bytes.take (fN ((fi s).takeWhile (Es off))).length⟩:=rfl;generalize fi s=bs at hit hsc hcut;have hlen:=hsc.len;have hrest:∀ (fr:KA) (e:Env) (G':Ks) (D:KF) (k:Nat),Gle G3 G'→bs.takeWhile (Es off)=bs.take k→e 2=.pointer (some ⟨b2,0,none⟩)→e 5=.pointer (some ⟨b5,0,none⟩)→e 4=.pointer (some ⟨b4,0,none⟩) →
   go none Tryz.prog 20 v190.1 v190.2 (fI o190 fun v h=>yO (BV s off) h.L v) (Td.s ((SC.reg false c190r7).seq .ret) :: fr) e ⟨G',[.blk b5 [.int .i64 (((fN (bs.take k)).length:Nat):Int)],.blk b4 [.int .i64 0,.slice none 0 0]],D⟩:=fun fr e G' D k hg htw e2 e5 e4=>by
  have hle:=gX bs k;refine dV [2,4,5] ?_;refine sJ3 @e2 @e4 @e5 ?_;intros;refine gR 17 20 c190r7.eq_1 ?_;refine⟨_,⟨_,[.int .i64 s.base,.slice A s.bytes.length c],rfl,rfl,rfl,fun j u hu=>.g (em (hg3.trans hg) (f2 j u hu))⟩,?_⟩;refine sI ?_;refine⟨_,dZ (.head _) rfl,?_⟩;refine sI ?_;refine(pJ (tz s (fN (bs.take k)).length _ G' (SE.le (hg02.trans (hg3.trans hg)) hs0) hb (by omega)) _ _).mono ?_
  rintro r h' ⟨G4,L',rfl,hg4,A4,c4,zc4,rfl,-,rfl,hzc4⟩;refine sI ?_;refine ek [_,_] [] rfl (by simp) ⟨rfl,rfl⟩ ?_;refine sI ?_;intros;refine dT ?_;refine eI (FF (.cons _ KJ)) ?_;rintro h' ⟨rfl,hne⟩;refine ea (ee (out:=[.agg #[.int .i64 s.base,.slice A4 (s.bytes.take (fN (bs.take k)).length).length c4]]) _ ?_ (.cons_cons _ KL) (dW dS) ?_)
  ·simp[o190,mR,Kx.getB,vg,ldC,Env.set,hne]
   trace_state
  rw[hcut,htw];exact⟨_,zc4,rfl,rfl,hzc4⟩
 refine sI ?_;intros;refine dT ?_;refine sn (α:=Nat) (fun k G' L'=>L'=[.blk b5 [.int .i64 (((fN (bs.take k)).length:Nat):Int)],.blk b4 [.int .i64 0,.slice none 0 0]]∧∀ y∈bs.take k,Es off y=true)
  (fun ex k G' L'=>ex=.exit 0∧L'=[.blk b5 [.int .i64 (((fN (bs.take k)).length:Nat):Int)],.blk b4 [.int .i64 0,.slice none 0 0]]∧bs.takeWhile (Es off)=bs.take k) (eE) F177.enters (ec (ec dS))
  (fun i G G' L hg h=>h) hit (fun G x args h=>by obtain⟨y,_,_,_,rfl⟩:=h;rfl) ⟨rfl,by simp⟩ ?_ ?_ ?_
 ·rintro yl k i args G' L' hki hgl ⟨x,cs,hx,hbe,rfl⟩ ⟨rfl,hall⟩ _;obtain⟨rfl,hkl⟩:=oY hki;obtain⟨B,d,rfl,-⟩:=hbe;have e3':=em (hg3.trans hgl) e3;unfold fu;refine sI ?_;intros;refine gR 0 0 c190r3.eq_1 ?_;intros;refine gR 0 0 c190r4.eq_1 ?_;intro bb;refine gD (rS ?_);intros;refine gR 13 15 c190r5.eq_1 ?_;refine⟨_,⟨_,rfl,.g e3'⟩,?_⟩;refine sI ?_;intros;refine gC ?_
  refine gbD (fun h1=>?_) (fun h1=>?_)
  ·refine eg ?_;refine sI ?_;exact Hs _ (.cons _ KJ) (ec (ec dS)) ⟨rfl,rfl,F5 hall hx (decide_eq_false (by omega))⟩
  ·have hcp:Es off x=true:=decide_eq_true (by omega);intros;refine gN ?_;intros;refine gR 16 17 c190r6.eq_1 ?_;refine ek [_] [_] rfl (by simp) ⟨rfl,rfl⟩ ?_;refine sI ?_;intros;refine dT ?_;refine gD (rk _ (.cons _ KJ) (ec (ec dS)) ⟨rfl,fun y hy=>?_⟩);rw[List.take_add_one,hx]at hy;rcases List.mem_append.1 hy with h | h
   ·exact hall y h
   ·simp at h;subst h;exact hcp
 ·rintro G' L' dd hgl ⟨rfl,hall⟩ _;rw[List.length_range]at hall ⊢;refine jg ?_;refine hrest _ _ _ _ _ hgl ?_ ?_ ?_ ?_
  ·rw[take_length]at hall ⊢;exact Bz hall
  ·(refine sI ?_;try with_reducible exact True.intro)
  ·(refine sI ?_;try with_reducible exact True.intro)
  ·(refine sI ?_;try with_reducible exact True.intro)
 ·rintro ex k G' L' d _ hgl ⟨rfl,rfl,htw⟩ _;refine sI ?_;refine hrest _ _ _ _ _ hgl htw ?_ ?_ ?_
  ·(refine sI ?_;try with_reducible exact True.intro)
  ·(refine sI ?_;try with_reducible exact True.intro)
  ·(refine sI ?_;try with_reducible exact True.intro)
theorem o0{nx:Int}:¬ o7 [] nx:=fun h=>by
 obtain⟨x,s,-,e,-⟩:=r7 h;have:=g0 x;have h2:=congrArg List.length e;simp at h2;omega
theorem Scans.join{nx:Int}{r r':KD}{bs ms:KE}(hok:∀ x∈bs,fM x=0)(ho:tF nx bs)(h:Scans (fV nx bs) r ms r'):Scans nx (fN bs++r) (bs++ms) r' :=
 ⟨by rw[ma,List.append_assoc,← h.eq],fun x hx=>(List.mem_append.1 hx).elim (hok x) (h.ok x),(pC _ _ _).2 ⟨ho,h.ord⟩,by rw[lS];exact h.stop⟩
theorem qG{nx:Int}{bs:KE}(h:tF nx bs)(k:Nat):tF nx (bs.take k):=by
 rw[← List.take_append_drop k bs,pC]at h;exact h.1
theorem Scans.pre{nx:Int}{q r:KD}{bs:KE}(h:Scans nx q bs r)(k:Nat):Scans nx (fN (bs.take k)) (bs.take k) [] :=
 ⟨(append_nil _).symm,fun x hx=>h.ok x (List.mem_of_mem_take hx),qG h.ord k,o0⟩
theorem zy{nx:Int}{q r:KD}{bs:KE}(h:Scans nx q bs r)(k:Nat):q.take (fN (bs.take k)).length=fN (bs.take k):=by
 have e:q=fN (bs.take k)++(fN (bs.drop k)++r):=by
  rw[← List.append_assoc,← ma,List.take_append_drop];exact h.eq
 rw[e,List.take_left]
theorem yy{s:Sg}{bs:KE}{r:KD}(h:Scans s.base s.bytes bs r)(k:Nat):fi ⟨s.base,s.bytes.take (fN (bs.take k)).length⟩=bs.take k :=
 Scans.is (r:=[]) (s:=⟨s.base,s.bytes.take (fN (bs.take k)).length⟩) (by show Scans s.base _ _ _;rw[zy h k];exact h.pre k)
theorem vt{s:Sg}{x:Batch}(hg:gk s=s.bytes.length)(h0:fM x=0)(ho:kf s≤x.base):Scans s.base (s.bytes++eu x) (fi s++[x]) []:=by
 obtain⟨r,h⟩:=fD s;have hr:s.bytes=fN (fi s):=by
  have e:=h.eq;have hl:=congrArg List.length e;rw[length_append]at hl;have:r=[]:=List.eq_nil_of_length_eq_zero (by unfold gk at hg;omega);rw[this,append_nil]at e;exact e
 have:=Scans.join (ms:=[x]) (r:=eu x) (r':=[]) h.ok h.ord ⟨by simp[fN],fun y hy=>by simp at hy;subst hy;exact h0,⟨ho,trivial⟩,o0⟩;rw[← hr]at this;exact this
theorem mJ:∀ {nx:Int} {bs:KE},tF nx bs→(∀ x∈bs,fM x=0)→∀ k,fV nx (bs.take k)≤fV nx bs
 | nx,[],_,_,k=>by simp[fV]
 | nx,x :: bs,ho,hok,0=>by
  have h1:=mJ ho.2 (fun z hz=>hok z (.tail _ hz)) 0;have h2:x.base≤x.last:=(ir (hok x (.head _))).1.2.2.1.1;have h3:=ho.1;simp only[List.take_zero,fV]at h1 ⊢;omega
 | nx,x :: bs,ho,hok,k+1=>mJ ho.2 (fun z hz=>hok z (.tail _ hz)) k
theorem F132:Fun Tryz.prog 132 17 v132 c132 o132:=Fun.mkA Tryz.func132 Tryz.ntmps132
theorem zq(s t:Sg)(cs ds:Kt)(G:Ks)(hs:SE G s cs)(ht:SE G t ds):FnS Tryz.prog 132 #[.agg cs.toArray,.agg ds.toArray] G (.bool (decide (s=t))):=by
 obtain⟨A,c,rfl,hl,hi⟩:=hs;obtain⟨B,d,rfl,hm,hj⟩:=ht;have hd:decide (s=t)=(decide (s.base=t.base) && decide (s.bytes=t.bytes)):=by
  rw[← Bool.decide_and];apply decide_eq_decide.2;constructor
  ·rintro rfl;exact⟨rfl,rfl⟩
  ·rintro⟨h1,h2⟩;cases s;cases t;simp_all
 rw[hd];refine F132.fnS (by simp) (dY ?_);unfold c132 gh;intros;refine gR 0 0 c132r0.eq_1 ?_;intros;refine gR 6 17 c132r1.eq_1 ?_;refine gd (fun k1=>?_) (fun k1=>?_)
 ·refine sI ?_;refine fK (zA _ _ _ _ _ hl hm _ _) ?_;intros;refine rW ?_;rw[k1,Bool.true_and]
 ·refine sI ?_;intros;refine rW ?_;rw[k1,Bool.false_and]
theorem F175:Fun Tryz.prog 175 50 v175 c175 o175:=Fun.mkA Tryz.func175 Tryz.ntmps175
theorem F174:Fun Tryz.prog 174 23 v174 c174 o174:=Fun.mkA Tryz.func174 Tryz.ntmps174
theorem F149:Fun Tryz.prog 149 25 v149 c149 o149:=Fun.mkA Tryz.func149 Tryz.ntmps149
theorem uF{bs:KE}{t:Nat}{y:Batch}(b:Int)(h0:0 < t)(hy:bs[t - 1]?=some y):fV b (bs.take t)=y.last+1:=by
 have:=pX b hy
 rwa [show t - 1+1=t by omega]at this
theorem sE:∀ {nx:Int} {bs:KE},tF nx bs→(∀ x∈bs,fM x=0)→nx≤fV nx bs
 | nx,[],_,_=>Int.le_refl _
 | nx,x :: bs,ho,hok=>by
  have h1:=sE ho.2 (fun z hz=>hok z (.tail _ hz));have h2:x.base≤x.last:=(ir (hok x (.head _))).1.2.2.1.1;have h3:=ho.1;simp only[fV];omega
theorem nS{W:KE}{x:Batch}(b:Int)(hx:W[W.length - 1]?=some x):fV b W=x.last+1:=by
 have h1:=(List.getElem?_eq_some_iff.1 hx).1;have:=pX b hx
 rwa [show W.length - 1+1=W.length by omega,take_length]at this
theorem ta:∀ {nx:Int} {bs:KE},tF nx bs→(∀ x∈bs,fM x=0)→0≤nx→nx≤1099511627777→nx+bs.length≤1099511627777
 | nx,[],_,_,_,h=>by simpa using h
 | nx,x :: bs,ho,hok,h0,h1=>by
  obtain⟨⟨-,f2,-⟩,-⟩:=(ir (hok x (.head _))).1;have h2:x.base≤x.last:=(ir (hok x (.head _))).1.2.2.1.1;have h3:=ho.1;simp[rng]at f2;have:=ta ho.2 (fun z hz=>hok z (.tail _ hz)) (by omega) (by omega);rw[List.length_cons];omega
theorem vu{nx:Int}{bs:KE}(h:tF nx bs)(hok:∀ x∈bs,fM x=0):bs.length≤1099511627777:=by
 cases bs with
 | nil=>simp
 | cons x bs =>
  obtain⟨⟨f1,-⟩,-⟩:=(ir (hok x (.head _))).1;simp[rng]at f1;have:=ta (nx:=x.base) (bs:=x :: bs) ⟨Int.le_refl _,h.2⟩ hok (by omega) (by omega);omega
theorem ts:∀ {bs:KE},(∀ x∈bs,fM x=0)→(fN bs).length≤2048 * bs.length
 | [],_=>Nat.le_refl _
 | x :: bs,h=>by
  have h1:=ts fun z hz=>h z (.tail _ hz)
  have h2:=(ir (h x (.head _))).2;rw[gH,length_append,List.length_cons];omega
set_option maxHeartbeats 1000000 in
theorem nT(s:Sg)(cs:Kt)(G:Ks)(hs:SE G s cs):FnO Tryz.prog 175 #[.agg cs.toArray] G [] (fun G' L' r=>wU s G' L' r):=by
 have hs0:=hs;obtain⟨A,c,rfl,hl,hi⟩:=hs;refine F175.fnO (by simp) dS (dY ?_);obtain⟨rr,hsc⟩:=fD s;have hSR:∀ G' u zc,Cells (BE G') 10 (fi s) zc→wU s G' [.row u 43 10 (fi s).length zc] (.tuple #[u,.int .i64 (((fN (fi s)).length:Nat):Int)]):=fun G' u zc h=>⟨u,zc,rfl,h,rfl⟩
 generalize fi s=bs at hsc hSR;have hlen:=hsc.len;have hmany:=vu hsc.ord hsc.ok;have hbig:=fun t=>ts (bs:=bs.take t) fun x hx=>hsc.ok x (List.mem_of_mem_take hx)
 unfold c175;unfold gh at hs0 ⊢;intros;refine gR 0 0 c175r0.eq_1 ?_;intros;refine gR 0 0 c175r1.eq_1 ?_;intros;refine gR 0 0 c175r2.eq_1 ?_;intros;intros;refine dT ?_;refine dU (eA none 43 10) ?_
 refine ej (fun e h=>∃ (t:Nat) (G':Ks) (u:Value) (zc:Kt) (Lh:Kv),(t≤bs.length∧Gle G G'∧Cells (BE G') 10 (bs.take t) zc)∧e 4=u∧e 5=.int .i64 (((fN (bs.take t)).length:Nat):Int)∧h=⟨G',Lh,[]⟩∧[.row u 43 10 (bs.take t).length zc,.reg 1 [.int .i64 s.base,.slice A s.bytes.length c]].Sublist Lh) (fun e h=>s.bytes.length+1 - iv (e 5)) ?_ ?_
 ·exact⟨0,G,_,[],_,⟨Nat.zero_le _,.refl G,.nil⟩,eE,rfl,rfl,List.Sublist.refl _⟩
 rintro e h ⟨t,G',u,zc,Lh,⟨ht,hgg,hzc⟩,e4,e5,rfl,hsub⟩;refine dV [4,5] ?_;refine sJ2 @e4 @e5 ?_;intros;refine dU (dX hsub) ?_;have hget:=yu s.bytes (((fN (bs.take t)).length:Nat):Int) _ G' (SB.le hl hgg) (.inr (by have:=hbig t;rw[List.length_take]at this;omega));unfold qW at hget;have htk:=gX bs t;have htl2:(bs.take t).length=t:=by rw[List.length_take];omega
 intros;refine gR 9 17 c175r3.eq_1 ?_;refine(hget _ _).mono ?_;rintro v h' ⟨G1,rfl,hg1,cs,rfl,hbe⟩;have hg01:=hgg.trans hg1;have hzc:=fa hzc fun _ _ h=>BE.le hg1 h
 by_cases htl:t < bs.length
 ·obtain⟨x,hx⟩:∃ x,bs[t]?=some x:=⟨bs[t],getElem?_eq_getElem htl⟩;obtain⟨a1,a2,a3,a4⟩:=hsc.at_ hx;rw[a1]at hbe ⊢;dsimp only at hbe ⊢;have hbe0:=hbe;obtain⟨B,d,rfl,-⟩:=hbe;have hlt:(fN (bs.take t)).length < (fN (bs.take (t+1))).length:=by
   have:=g0 x;rw[nZ hx,length_append];omega
  have hle:=gX bs (t+1);have htk1:bs.take (t+1)=bs.take t++[x]:=by rw[List.take_add_one,hx];rfl
  have hge:s.base≤fV s.base (bs.take t):=sE (qG hsc.ord t) fun z hz=>hsc.ok z (List.mem_of_mem_take hz)
  have n1:decide ((0:Int)≠0)=false:=by decide
  have n2:decide (x.base < s.base)=false:=decide_eq_false (by omega);unfold fu at hbe0 ⊢;refine sI ?_;intros;try refine ed ?_
  refine eI (gL (.tail _ (.head _))) ?_;rintro h' ⟨rfl,Au,cu,rfl,hcu,hmu⟩
  refine eL (fun e h=>e 4=.slice Au (bs.take t).length cu∧e 7=.int .i64 (((fN (bs.take (t+1))).length:Nat):Int)∧h=⟨G1,[.reg 6 [.int .i64 x.base,.int .i64 x.last,.int .i64 x.src,.int .i64 x.epoch,.int .i64 x.pid,.int .i64 x.gen,.int .i64 x.seq,.bool x.txn,.int .i64 x.ctl,.slice B x.recs.length d],.row (.slice Au (bs.take t).length cu) 43 10 (bs.take t).length zc,.reg 1 [.int .i64 s.base,.slice A s.bytes.length c]],[]⟩) ?_ ?_
  ·by_cases h0:0 < t
   ·refine eI (iE (.tail _ (.head _)) (by omega)) ?_;rintro h' ⟨rfl,g,c0,hA3,-,-⟩;cases hA3;obtain⟨y,hy⟩:∃ y,bs[t - 1]?=some y:=⟨bs[t - 1]'(by omega),getElem?_eq_getElem _⟩;have hyt:(bs.take t)[t - 1]?=some y:=by rw[List.getElem?_take,if_pos (by omega)];exact hy
    have hnx:=uF s.base h0 hy;have hw1:=xi t h0 (by omega);have n3:decide (0 < (((bs.take t).length:Nat):Int))=true:=decide_eq_true (by omega);have n4:decide (x.base≤y.last)=false:=decide_eq_false (by omega);obtain⟨cy,hEy,hly,hcy⟩:=hzc.get hyt;have hv1:=hcy 1 (.int .i64 y.last) (by obtain⟨_,_,rfl,-⟩:=hEy;rfl)
    have hw1:IntKind.i64.wrap ((((bs.take t).length:Nat):Int) - 1)=((t - 1:Nat):Int):=by rw[htl2];exact hw1
    intros;refine dT ?_;refine qB 17 42 (by decide) ?_;refine sJ5 c175r4.eq_1 @n1 @n2 @n3 @hw1 ?_;refine⟨by omega,_,rfl,?_⟩;rw[eV,eV,Nat.zero_add];refine⟨_,ff (.tail _ (.head _)) hv1,?_⟩;refine sJ @n4 ?_;intros;refine gC ?_;intros;refine dT ?_;exact eF ⟨eE,eE,rfl⟩
   ·have n3:decide (0 < (((bs.take t).length:Nat):Int))=false:=decide_eq_false (by omega);intros;refine dT ?_;refine qB 17 42 (by decide) ?_;refine sJ4 c175r4.eq_1 @n1 @n2 @n3 ?_;intros;refine gC ?_;intros;refine dT ?_;exact eF ⟨eE,eE,rfl⟩
  rintro e h ⟨e4,e7,rfl⟩;refine dV [4,7] ?_;refine sJ2 @e4 @e7 ?_;intros;intros;refine gR 45 49 c175r6.eq_1 ?_;intro bk hbk;refine CR (L1:=[_]) (L2:=[_]) (E:=BE G1) (x:=x) rfl hbe0 rfl (by simp[Value.oneCell']) hzc ⟨by omega,by unfold maxLen;omega⟩ fun A' c' zc' hzc'=>?_
  rw[← htk1]at hzc' ⊢;refine sI ?_;intros;refine gR 49 50 c175r7.eq_1 ?_;intros;refine dT ?_;refine eF ⟨⟨t+1,G1,_,zc',_,⟨by omega,hg01,hzc'⟩,eE,eE,rfl,.cons _ (.cons _ KJ)⟩,?_⟩;refine sI ?_;omega
 ·have htl:t=bs.length:=by omega
  subst htl;rw[take_length]at hget hbe hzc ⊢;have hend:=hsc.end_;generalize getB s.bytes (((fN bs).length:Nat):Int)=q at *;obtain⟨x,nx,er⟩:=q;dsimp only at hbe hend ⊢;obtain⟨B,d,rfl,-⟩:=hbe;unfold fu;have hfin:=hSR G1 u zc hzc
  have hret:∀ (e:Env) (fr:KA),e 4=u→e 5=.int .i64 (((fN bs).length:Nat):Int)→go none Tryz.prog 50 v175.1 v175.2 (fI o175 fun v h=>wU s h.G h.L v) (Td.s ((SC.reg false c175r5).seq .ret) :: fr) e ⟨G1,[.reg 6 [.int .i64 x.base,.int .i64 x.last,.int .i64 x.src,.int .i64 x.epoch,.int .i64 x.pid,.int .i64 x.gen,.int .i64 x.seq,.bool x.txn,.int .i64 x.ctl,.slice B x.recs.length d],.row u 43 10 bs.length zc,.reg 1 [.int .i64 s.base,.slice A s.bytes.length c]],[]⟩:=fun e fr e4 e5=>by
   refine dV [4,5] ?_;refine sJ2 @e4 @e5 ?_;intros;refine gR 43 45 c175r5.eq_1 ?_;intros;refine dT ?_;exact ea (ee _ rfl (.cons _ (.cons_cons _ KL)) (dW dS) hfin)
  refine sI ?_;intros;try refine ed ?_
  refine eI (gL (.tail _ (.head _))) ?_;rintro h' ⟨rfl,Au,cu,rfl,hcu,hmu⟩;by_cases h0:0 < bs.length
  ·refine eI (iE (.tail _ (.head _)) (by omega)) ?_;rintro h' ⟨rfl,g,c0,hA3,-,-⟩;cases hA3;obtain⟨y,hy⟩:∃ y,bs[bs.length - 1]?=some y:=⟨bs[bs.length - 1]'(by omega),getElem?_eq_getElem _⟩;have hnx:=nS s.base hy;have hw1:=xi bs.length h0 (by omega);have n3:decide (0 < ((bs.length:Nat):Int))=true:=decide_eq_true (by omega);obtain⟨cy,hEy,hly,hcy⟩:=hzc.get hy
   have hv1:=hcy 1 (.int .i64 y.last) (by obtain⟨_,_,rfl,-⟩:=hEy;rfl);intros;refine dT ?_;refine qB 17 42 (by decide) ?_;refine sJ c175r4.eq_1 ?_;refine gq (fun k1=>?_) (fun k1=>?_)
   ·refine sI ?_;intros;refine gC ?_;exact hret _ _ (eE) (eE)
   have k1:er=0:=by simpa using k1
   refine sI ?_;refine gq (fun k2=>?_) (fun k2=>?_)
   ·refine sI ?_;intros;refine gC ?_;exact hret _ _ (eE) (eE)
   have k2:=KN k2;have n4:decide (x.base≤y.last)=true:=decide_eq_true (by rcases hend with h | h;exact absurd k1 h;omega)
   refine sJ2 @n3 @hw1 ?_;refine⟨by omega,_,rfl,?_⟩;rw[eV,eV,Nat.zero_add];refine⟨_,ff (.tail _ (.head _)) hv1,?_⟩;refine sJ @n4 ?_;intros;refine gC ?_;exact hret _ _ (eE) (eE)
  ·have hb0:bs=[]:=List.eq_nil_of_length_eq_zero (by omega);have hnx:fV s.base bs=s.base:=by rw[hb0];rfl
   intros;refine dT ?_;refine qB 17 42 (by decide) ?_;refine sJ c175r4.eq_1 ?_;refine gq (fun k1=>?_) (fun k1=>?_)
   ·refine sI ?_;intros;refine gC ?_;exact hret _ _ (eE) (eE)
   have k1:er=0:=by simpa using k1
   have k2:decide (x.base < s.base)=true:=decide_eq_true (by rcases hend with h | h;exact absurd k1 h;omega)
   refine sJ @k2 ?_;intros;refine gC ?_;exact hret _ _ (eE) (eE)
theorem ws(s:Sg)(cs:Kt)(G:Ks)(hs:SE G s cs)(_hb:s.bytes.length≤1000000):FnS Tryz.prog 174 #[.agg cs.toArray] G (.int .i64 (kf s)):=by
 have hscan:=nT s cs G hs;have hs0:=hs;obtain⟨A,c,rfl,hl,hi⟩:=hs;obtain⟨rr,hsc⟩:=fD s;have hend:kf s=fV s.base (fi s):=rfl;refine F174.fnS (by simp) (dY ?_);unfold c174;unfold gh at hscan ⊢;intros;refine gR 0 0 c174r0.eq_1 ?_;intros;refine gR 4 10 c174r1.eq_1 ?_;refine(hscan _ _).mono ?_;rintro r h' ⟨G1,L',rfl,hg1,u,zc,rfl,hzc,rfl⟩;generalize fi s=bs at *;refine sI ?_;intros;try refine ed ?_
 refine eI (eh [] _ (by decide) hzc) ?_;rintro h' ⟨G2,rfl,hg2,A2,c2,rfl,hc2,hm2,hA2⟩;intros;refine gR 10 12 c174r2.eq_1 ?_;intros;refine gC ?_;refine gbD (fun k1=>?_) (fun k1=>?_)
 ·have hb0:bs=[]:=List.eq_nil_of_length_eq_zero (by omega);intros;refine gR 14 15 c174r3.eq_1 ?_;intros;refine rW ?_;rw[hend,hb0];rfl
 ·obtain⟨y,hy⟩:∃ y,bs[bs.length - 1]?=some y:=⟨bs[bs.length - 1]'(by omega),getElem?_eq_getElem _⟩;have hnx:=nS s.base hy;have hw1:=xi bs.length (by omega) (by omega);have hlw:=yM (hsc.ok y (mem_of_getElem? hy));intros;refine gN ?_;intros;refine gR2 15 23 c174r4.eq_1 @hw1 ?_
  refine hA2.x_lf (k:=bs.length - 1) (u:=.int .i64 y.last) hy (by omega) rfl (fun cs h=>by obtain⟨_,_,rfl,-⟩:=h;rfl) fun a ha=>?_
  refine sJ @hlw ?_;intros;refine rW ?_;rw[hend,hnx]
def fL(s:Sg):Bool:=inO s.base && decide (gk s=s.bytes.length)
theorem oF(s:Sg)(cs:Kt)(G:Ks)(hs:SE G s cs):FnS Tryz.prog 149 #[.agg cs.toArray] G (.bool (fL s)):=by
 have hscan:=nT s cs G hs;obtain⟨A,c,rfl,hl,hi⟩:=hs;refine F149.fnS (by simp) (dY ?_);unfold c149;unfold gh at hscan ⊢;have hd:decide (((gk s:Nat):Int)=((s.bytes.length:Nat):Int))=decide (gk s=s.bytes.length):=decide_eq_decide.2 (by omega);intros;refine gR 0 0 c149r0.eq_1 ?_;intros;refine gR 5 10 c149r1.eq_1 ?_;refine(hscan _ _).mono ?_;rintro r h' ⟨G1,L',rfl,hg1,u,zc,rfl,hzc,rfl⟩;refine sI ?_
 intros;refine gR2 11 25 c149r2.eq_1 @hd ?_;refine gd (fun k1=>?_) (fun k1=>?_)
 ·refine sI ?_;refine gd (fun k2=>?_) (fun k2=>?_)
  ·refine sJ @hd ?_;intros;refine rW ?_;rw[fL,inO,k1,k2,Bool.true_and,Bool.true_and]
  ·refine sI ?_;intros;refine rW ?_;rw[fL,inO,k2,Bool.and_false,Bool.false_and]
 ·refine sI ?_;intros;refine rW ?_;rw[fL,inO,k1,Bool.false_and,Bool.false_and]
structure Lg where
 limit:Int
 start:Int
 segs:List Sg
deriving DecidableEq
def hH:Lg:=⟨0,0,[]⟩
def lz(limit start:Int):Bool:=decide (256≤limit) && decide (limit≤4096) && inO start
def oB(a b:Sg):Bool:=decide (a.base < b.base) && decide (kf a≤b.base)
def AK(limit:Int)(p:Option Sg)(s:Sg):Prop:=(fL s=true∧(s.bytes.length:Int)≤limit)∧∀ a,p=some a→oB a s=true
instance (limit:Int) (s:Sg):∀ p,Decidable (AK limit p s)
 | none=>if h:fL s=true∧(s.bytes.length:Int)≤limit then .isTrue ⟨h,fun a h=>by cases h⟩else .isFalse fun hh=>h hh.1
 | some a=>if h:(fL s=true∧(s.bytes.length:Int)≤limit)∧oB a s=true then .isTrue ⟨h.1,fun b hb=>by cases hb;exact h.2⟩else .isFalse fun hh=>h ⟨hh.1,hh.2 a rfl⟩
def okS(limit:Int):Option Sg→List Sg→Prop
 | _,[]=>True
 | p,s :: ss=>AK limit p s∧okS limit (some s) ss
instance (limit:Int):∀ p l,Decidable (okS limit p l)
 | _,[]=>.isTrue trivial
 | p,s :: ss=>@instDecidableAnd _ _ (inferInstance) (instDecidableOkS limit (some s) ss)
where instDecidableOkS (limit:Int):∀ p l,Decidable (okS limit p l)
 | _,[]=>.isTrue trivial
 | p,s :: ss=>@instDecidableAnd _ _ (inferInstance) (instDecidableOkS limit (some s) ss)
def kg:Option Sg→List Sg→Option Sg
 | p,[]=>p
 | _,s :: ss=>kg (some s) ss
theorem AZ(p:Option Sg)(a b:List Sg):kg p (a++b)=kg (kg p a) b:=by
 induction a generalizing p with
 | nil=>rfl
 | cons x a ih=>exact ih _
theorem mF(limit:Int)(p:Option Sg)(a b:List Sg):okS limit p (a++b)↔okS limit p a∧okS limit (kg p a) b:=by
 induction a generalizing p with
 | nil=>simp[okS,kg]
 | cons x a ih=>simp only[List.cons_append,okS,kg,ih,and_assoc]
theorem nI(p:Option Sg)(a:List Sg)(s:Sg):kg p (a++[s])=some s:=by rw[AZ];rfl
theorem eR{α:Type}{l:List α}{k:Nat}{x:α}(h:l[k]?=some x):l.take (k+1)=l.take k++[x]:=by rw[List.take_add_one,h];rfl
theorem oh{l:List Sg}{k:Nat}{s:Sg}(p:Option Sg)(h:l[k]?=some s):kg p (l.take (k+1))=some s:=by rw[eR h,nI]
theorem pw{limit:Int}{l:List Sg}{k:Nat}{s:Sg}(h:l[k]?=some s):okS limit none (l.take (k+1))↔okS limit none (l.take k)∧AK limit (kg none (l.take k)) s:=by
 rw[eR h,mF];simp[okS]
theorem Dc{limit:Int}{p:Option Sg}{l:List Sg}(h:okS limit p l)(k:Nat):okS limit p (l.take k):=by
 rw[← List.take_append_drop k l,mF]at h;exact h.1
theorem sG{limit:Int}{l:List Sg}:∀ {p:Option Sg},okS limit p l→∀ s∈l,fL s=true∧(s.bytes.length:Int)≤limit:=by
 induction l with
 | nil=>intro p _ s h;cases h
 | cons x l ih =>
  intro p h s hs;rcases List.mem_cons.1 hs with rfl | hs
  ·exact h.1.1
  ·exact ih h.2 s hs
theorem qu{l:List Sg}{s:Sg}(p:Option Sg)(h:l[l.length - 1]?=some s):kg p l=some s:=by
 have h0:=(List.getElem?_eq_some_iff.1 h).1;have:=oh p h
 rwa [Nat.sub_add_cancel (by omega),take_length]at this
def fS(l:Lg):Int:=if lz l.limit l.start=true∧l.segs≠[]∧okS l.limit none l.segs then(if 256 < l.segs.length then 2 else 0)else 1
theorem ib{l:Lg}(h:fS l=0):lz l.limit l.start=true∧l.segs≠[]∧okS l.limit none l.segs∧l.segs.length≤256:=by
 unfold fS at h;split at h
 ·rename_i h1;split at h
  ·cases h
  ·exact⟨h1.1,h1.2.1,h1.2.2,by omega⟩
 ·cases h
theorem s6{l:Lg}(h1:lz l.limit l.start=true)(h2:l.segs≠[])(h3:okS l.limit none l.segs)(h4:l.segs.length≤256):fS l=0:=by
 rw[fS,if_pos ⟨h1,h2,h3⟩,if_neg (by omega)]
theorem gM{a b:Int}:lz a b=true↔(256≤a∧a≤4096)∧inO b=true:=by simp[lz]
def yQ(n:Int):Option Sg→Int
 | none=>n
 | some s=>max n (kf s)
def uA(l:Lg):Int:=yQ l.start (kg none l.segs)
def fg(l:Lg):Int:=if fS l=0 then uA l else 0
def yP:Int→List Sg→Int
 | n,[]=>n
 | n,s :: ss=>yP (max n (kf s)) ss
theorem y8(n:Int)(a b:List Sg):yP n (a++b)=yP (yP n a) b:=by
 induction a generalizing n with
 | nil=>rfl
 | cons x a ih=>exact ih _
theorem gt{s:Sg}:fL s=true↔gk s=s.bytes.length∧inO s.base=true:=by
 simp[fL,and_comm]
theorem Scans.ge{nx:Int}{q r:KD}{bs:KE}(h:Scans nx q bs r):nx≤fV nx bs:=by
 have:=mJ h.ord h.ok 0;simpa [fV]using this
theorem CO(s:Sg):s.base≤kf s:=by
 obtain⟨r,h⟩:=fD s;exact h.ge
theorem tZ{a b:Sg}:oB a b=true↔a.base < b.base∧kf a≤b.base:=by simp[oB]
theorem wk{limit:Int}:∀ {l:List Sg} {p:Option Sg} {n:Int},okS limit p l→yP (yQ n p) l=yQ n (kg p l)
 | [],p,n,h=>rfl
 | s :: l,p,n,h=>by
  show yP (max (yQ n p) (kf s)) l=yQ n (kg (some s) l);have:max (yQ n p) (kf s)=yQ n (some s):=by
   cases p with
   | none=>rfl
   | some a =>
    have:=tZ.1 (h.1.2 a rfl);have:=CO s;show max (max n (kf a)) (kf s)=max n (kf s);omega
  rw[this];exact wk h.2
theorem El{l:Lg}(h:okS l.limit none l.segs):yP l.start l.segs=uA l:=wk (p:=none) h
def bsS(l:List Sg):KE:=l.flatMap fi
theorem o8:bsS []=[]:=rfl
theorem kF(s:Sg)(l:List Sg):bsS (s :: l)=fi s++bsS l:=rfl
theorem nQ(a b:List Sg):bsS (a++b)=bsS a++bsS b:=by simp[bsS]
def gz(off:Int)(l:KE):KE:=l.filter fun b=>decide (off≤b.last)
theorem jv(off:Int)(a b:KE):gz off (a++b)=gz off a++gz off b:=by simp[gz]
def GU(l:Lg):KE:=gz l.start (bsS l.segs)
def nj(l:Lg):KE:=if fS l=0 then GU l else[]
def x8(limit start:Int):Lg × Int:=if lz limit start=true then(⟨limit,start,[⟨start,[]⟩]⟩,0)else(hH,1)
def wL(l:Lg):Sg:=(kg none l.segs).getD jQ
def j6(l:Lg)(b:Batch):Lg × Int :=
 if fS l=0 then
  if fM b=0 then
   if b.base < uA l then(hH,71)
   else if l.limit < ((eu b).length:Int)then(hH,70)
   else if (jM (wL l) b l.limit).2=0 then(⟨l.limit,l.start,l.segs.take (l.segs.length - 1)++[(jM (wL l) b l.limit).1]⟩,0)
   else if l.segs.length=256 then(hH,2)
   else(⟨l.limit,l.start,l.segs++[⟨b.base,eu b⟩]⟩,0)
  else(hH,fM b)
 else(hH,fS l)
def AM(l:Lg)(off:Int):Bool:=decide (l.start≤off) && decide (off≤uA l)
def sC(l:List Sg)(to:Int):List Sg:=(l.filter fun s=>decide (s.base < to)).map fun s=>BV s to
def uV(l:List Sg)(to:Int):List Sg:=if sC l to=[]then[⟨to,[]⟩]else sC l to
def sR(l:Lg)(to:Int):Lg × Int :=
 if fS l=0 then if AM l to=true then(⟨l.limit,l.start,uV l.segs to⟩,0)else(hH,90)else(hH,fS l)
def yS(l:Lg)(n:Nat):Sg:=l.segs.getD n jQ
def jC(p:Option Sg)(s:Sg):Bool :=
 match p with
 | none=>true
 | some a=>fL a && oB a s
def fP:Option Sg→List Sg→List Sg
 | _,[]=>[]
 | p,s :: ss=>if jC p s=true then(m8 s).1 :: fP (some s) ss else[]
def gi:List Sg→Nat
 | []=>0
 | s :: ss=>s.bytes.length+gi ss
theorem lR(a b:List Sg):gi (a++b)=gi a+gi b:=by
 induction a with
 | nil=>simp[gi]
 | cons x a ih=>simp only[List.cons_append,gi,ih];omega
def lH(l:Lg):Bool:=match l.segs with | []=>false | s :: _=>inO s.base
def iQ(l:Lg):Lg × Int :=
 if lz l.limit l.start=true∧lH l=true then(⟨l.limit,l.start,fP none l.segs⟩,(gi l.segs:Int) - (gi (fP none l.segs):Int))else(hH,0)
theorem xu{a b:Int}(h:lz a b=true):ox a=true:=by
 have:=gM.1 h;exact tl.2 ⟨by omega,by omega⟩
theorem Gz{a b:Int}(h:lz a b=true):inO b=true:=(gM.1 h).2
theorem yo{b:Batch}(h:fM b=0):b.base≤b.last:=(ir h).1.2.2.1.1
theorem xY{b:Batch}(h:fM b=0):inO b.base=true∧inO b.last=true:=by
 obtain⟨⟨f1,f2,-⟩,-⟩:=(ir h).1;simp[rng]at f1 f2;exact⟨iw.2 (by omega),iw.2 (by omega)⟩
theorem Bs{s:Sg}{b:Batch}{limit:Int}(hw:fL s=true)(hl:ox limit=true)(h0:fM b=0)(ho:kf s≤b.base):
  jM s b limit=if limit < ((s.bytes.length+(eu b).length:Nat):Int)then(jQ,70)else(⟨s.base,s.bytes++eu b⟩,0):=by
 have hw:=gt.1 hw;split
 ·rename_i h;exact BM ⟨hw.1,hw.2,hl⟩ h0 (by omega) h
 ·rename_i h;exact xZ ⟨hw.1,hw.2,hl⟩ h0 (by omega) h
theorem GB{base:Int}(h:inO base=true):vi base=(⟨base,[]⟩,0):=if_pos h
theorem Eh(base:Int):kf ⟨base,[]⟩=base:=rfl
theorem FU{b:Batch}{limit:Int}(hl:ox limit=true)(h0:fM b=0)(h1:((eu b).length:Int)≤limit):ofS b.base [b] limit=(⟨b.base,eu b⟩,0):=by
 have hin:=(xY h0).1;have ha:jM ⟨b.base,[]⟩ b limit=(⟨b.base,eu b⟩,0):=by
  have:=xZ (s:=⟨b.base,[]⟩) (x:=b) (limit:=limit) ⟨rfl,hin,hl⟩ h0 (by rw[Eh];omega) (by simp;omega);rw[this];simp
 unfold ofS;rw[GB hin,if_pos ⟨rfl,hl⟩];simp only[ofL,ha,if_true]
theorem pK{b:Batch}(h0:fM b=0):fi ⟨b.base,eu b⟩=[b] :=
 Scans.is (r:=[]) ⟨by simp[fN],fun x hx=>by simp at hx;subst hx;exact h0,⟨Int.le_refl _,trivial⟩,o0⟩
theorem xh{b:Batch}(h0:fM b=0):fL ⟨b.base,eu b⟩=true :=
 gt.2 ⟨by rw[gk,pK h0];simp[fN],(xY h0).1⟩
theorem CY{b:Batch}(h0:fM b=0):kf ⟨b.base,eu b⟩=b.last+1:=by rw[kf,pK h0];rfl
theorem qx{s:Sg}(h:gk s=s.bytes.length):s.bytes=fN (fi s):=by
 obtain⟨r,hs⟩:=fD s;have e:=hs.eq;have hl:=congrArg List.length e;rw[length_append]at hl;have:r=[]:=List.eq_nil_of_length_eq_zero (by unfold gk at h;omega);rw[this,append_nil]at e;exact e
theorem GF{s:Sg}{b:Batch}(hw:fL s=true)(h0:fM b=0)(ho:kf s≤b.base):fi ⟨s.base,s.bytes++eu b⟩=fi s++[b]∧fL ⟨s.base,s.bytes++eu b⟩=true∧kf ⟨s.base,s.bytes++eu b⟩=b.last+1:=by
 have hw:=gt.1 hw;have h1:fi ⟨s.base,s.bytes++eu b⟩=fi s++[b]:=Scans.is (r:=[]) (vt hw.1 h0 ho);refine⟨h1,gt.2 ⟨?_,hw.2⟩,?_⟩
 ·rw[gk,h1,ma,← qx hw.1];simp[fN]
 ·rw[kf,h1,lS];rfl
theorem jF{l:List Sg}(h:l≠[]):∃ s,l[l.length - 1]?=some s∧l=l.take (l.length - 1)++[s]∧kg none l=some s:=by
 have h0:0 < l.length:=List.length_pos_iff.2 h;refine⟨l[l.length - 1]'(by omega),getElem?_eq_getElem _,?_,?_⟩
 ·have:=eR (l:=l) (k:=l.length - 1) (getElem?_eq_getElem (by omega))
  rwa [Nat.sub_add_cancel (by omega),take_length]at this
 ·exact qu none (getElem?_eq_getElem _)
theorem xO(l:Lg):l.start≤uA l:=by
 unfold uA yQ;split <;> omega
theorem o4{l:Lg}(h:fS l=0):∃ s,l.segs[l.segs.length - 1]?=some s∧l.segs=l.segs.take (l.segs.length - 1)++[s]∧wL l=s∧uA l=max l.start (kf s)∧AK l.limit (kg none (l.segs.take (l.segs.length - 1))) s:=by
 obtain⟨h1,h2,h3,h4⟩:=ib h;obtain⟨s,e1,e2,e3⟩:=jF h2;refine⟨s,e1,e2,by rw[wL,e3];rfl,by rw[uA,e3];rfl,?_⟩;rw[e2,mF]at h3;exact h3.2.1
theorem mE{l:Lg}{b:Batch}(h:(j6 l b).2=0):(fS l=0∧fM b=0∧uA l≤b.base∧((eu b).length:Int)≤l.limit)∧((j6 l b).1.limit=l.limit∧(j6 l b).1.start=l.start)∧fS (j6 l b).1=0∧uA (j6 l b).1=b.last+1∧bsS (j6 l b).1.segs=bsS l.segs++[b]∧((j6 l b).1.segs.length=l.segs.length∨(j6 l b).1.segs.length=l.segs.length+1):=by
 have hge:=xO l;unfold j6 at h ⊢;by_cases k0:¬ fS l=0
 ·rw[if_neg k0]at h;exact absurd h k0
 have k0:=Decidable.not_not.1 k0;rw[if_pos k0]at h ⊢;by_cases k1:¬ fM b=0
 ·rw[if_neg k1]at h;exact absurd h k1
 have k1:=Decidable.not_not.1 k1;rw[if_pos k1]at h ⊢;by_cases k2:b.base < uA l
 ·rw[if_pos k2]at h;cases h
 rw[if_neg k2]at h ⊢;by_cases k3:l.limit < ((eu b).length:Int)
 ·rw[if_pos k3]at h;cases h
 rw[if_neg k3]at h ⊢;refine⟨⟨k0,k1,by omega,by omega⟩,?_⟩;obtain⟨c1,c2,c3,c4⟩:=ib k0;obtain⟨s,e1,e2,e3,e4,e5⟩:=o4 k0;have hb:=yo k1;rw[e3]at h ⊢;have hap:=Bs e5.1.1 (xu c1) k1 (show kf s≤b.base by omega);have hlen:0 < l.segs.length:=List.length_pos_iff.2 c2;have hok:=c3;rw[e2,mF]at hok;by_cases k4:l.limit < ((s.bytes.length+(eu b).length:Nat):Int)
 ·rw[if_pos k4]at hap;rw[hap]at h ⊢;rw[if_neg (by decide)]at h ⊢;by_cases k5:l.segs.length=256
  ·rw[if_pos k5]at h;cases h
  rw[if_neg k5]at h ⊢;refine⟨⟨rfl,rfl⟩,s6 c1 (by simp) ?_ (by simp;omega),?_,?_,.inr (by simp)⟩
  ·show okS l.limit none (l.segs++[⟨b.base,eu b⟩]);rw[mF];refine⟨c3,⟨⟨xh k1,by show((eu b).length:Int)≤_;omega⟩,fun a ha=>?_⟩,trivial⟩;rw[qu none e1]at ha;cases ha;have hwb:s.base < b.base:=by
    have h6:=(gt.1 e5.1.1).1;have h7:=qx h6;obtain⟨r,hs⟩:=fD s;have hne:fi s≠[]:=fun hh=>by
     rw[hh]at h7;have:s.bytes.length=0:=by rw[h7];rfl
     omega
    obtain⟨x,bs,hx⟩:=List.exists_cons_of_ne_nil hne;have ho:=hs.ord;have hk:=hs.ok;rw[hx]at ho hk;have h8:=yo (hk x (.head _));have h9:=sE ho.2 (fun z hz=>hk z (.tail _ hz));have h10:kf s=fV (x.last+1) bs:=by rw[kf,hx];rfl
    have h11:=ho.1;omega
   exact tZ.2 ⟨hwb,by show kf s≤b.base;omega⟩
  ·show yQ l.start (kg none (l.segs++[_]))=_;rw[nI];show max l.start (kf ⟨b.base,eu b⟩)=_;rw[CY k1];omega
  ·show bsS (l.segs++[_])=_;rw[nQ];congr 1;rw[kF,o8,pK k1];rfl
 ·rw[if_neg k4]at hap;rw[hap]at h ⊢;rw[if_pos rfl];obtain⟨g1,g2,g3⟩:=GF e5.1.1 k1 (show kf s≤b.base by omega);have hl2:(l.segs.take (l.segs.length - 1)++[(⟨s.base,s.bytes++eu b⟩:Sg)]).length=l.segs.length:=by
   rw[length_append,List.length_take];simp only[List.length_cons,List.length_nil];omega
  refine⟨⟨rfl,rfl⟩,s6 c1 (by simp) ?_ (by show List.length _≤_;rw[hl2];omega),?_,?_,.inl hl2⟩
  ·show okS l.limit none (_++[_]);rw[mF];refine⟨hok.1,⟨⟨g2,by show((s.bytes++eu b).length:Int)≤_;rw[length_append];omega⟩,fun a ha=>?_⟩,trivial⟩;exact e5.2 a ha
  ·show yQ l.start (kg none (_++[_]))=_;rw[nI];show max l.start (kf ⟨s.base,s.bytes++eu b⟩)=_;rw[g3];omega
  ·show bsS (_++[_])=_;rw[nQ,kF,o8,append_nil,g1,← List.append_assoc];congr 1
   conv=>rhs;rw[e2]
   rw[nQ,kF,o8,append_nil]
theorem AU{l:Lg}{b:Batch}(h:(j6 l b).2=0):GU (j6 l b).1=GU l++[b]:=by
 obtain⟨⟨-,h1,h2,-⟩,⟨h3,h4⟩,-,-,h5,-⟩:=mE h;have:=xO l;have:=yo h1;unfold GU;rw[h4,h5,jv];congr 1;unfold gz;rw[List.filter_cons,if_pos (by simp;omega)];rfl
theorem Cq{l:Lg}{b:Batch}(h:¬ (j6 l b).2=0):(j6 l b).1=hH:=by
 unfold j6 at h ⊢
 repeat' split
 all_goals first | rfl | skip
 all_goals simp_all
theorem vp{s:Sg}(h:fL s=true):(fN (fi s)).length=s.bytes.length:=(gt.1 h).1
theorem vM{limit:Int}:∀ {l:List Sg} {p:Option Sg},okS limit p l→(fN (bsS l)).length=gi l
 | [],_,_=>rfl
 | s :: l,p,h=>by
  rw[kF,ma,length_append,vp h.1.1.1,gi,vM h.2]
theorem wg{limit:Int}:∀ {l:List Sg} {p:Option Sg},okS limit p l→(gi l:Int)≤limit * l.length
 | [],_,_=>by simp[gi]
 | s :: l,p,h=>by
  have h1:=wg h.2;have h2:=h.1.1.2;rw[gi,List.length_cons];push_cast;rw[Int.mul_add];omega
theorem ww(off:Int)(l:KE):(fN (gz off l)).length≤(fN l).length:=by
 induction l with
 | nil=>exact Nat.le_refl _
 | cons b l ih =>
  unfold gz at ih ⊢;rw[List.filter_cons];split
  ·simp only[gH,length_append];omega
  ·simp only[gH,length_append];omega
theorem HB{s:Sg}(h:fL s=true):m8 s=(s,0):=by
 have:=(gt.1 h).1;unfold m8;rw[this,take_length];cases s;simp
theorem ub{limit:Int}:∀ {l m:List Sg} {p:Option Sg},(∀ a,p=some a→fL a=true)→okS limit p l→fP p (l++m)=l++fP (kg p l) m
 | [],m,p,_,_=>rfl
 | s :: l,m,p,hp,h=>by
  have hk:jC p s=true:=by
   cases p with
   | none=>rfl
   | some a=>simp[jC,hp a rfl,h.1.2 a rfl]
  rw[List.cons_append,fP,if_pos hk,HB h.1.1.1,ub (fun a ha=>by cases ha;exact h.1.1.1) h.2];rfl
theorem C4{limit:Int}{l:List Sg}(h:okS limit none l):fP none l=l:=by
 have:=ub (m:=[]) (fun a ha=>by cases ha) h;rw[append_nil]at this;rw[this,fP,append_nil]
theorem y5{l:Lg}(h:fS l=0):lH l=true:=by
 obtain⟨h1,h2,h3,h4⟩:=ib h;unfold lH;cases hs:l.segs with
 | nil=>exact absurd hs h2
 | cons s ss =>
  rw[hs]at h3;exact(gt.1 h3.1.1.1).2
theorem yz{l:Lg}(h:fS l=0):iQ l=(l,0):=by
 obtain⟨h1,h2,h3,h4⟩:=ib h;unfold iQ;rw[if_pos ⟨h1,y5 h⟩,C4 h3];simp
theorem zX(s:Sg):fi (m8 s).1=fi s∧gk (m8 s).1=(m8 s).1.bytes.length∧(m8 s).1.bytes.length=gk s:=by
 obtain⟨r,h⟩:=fD s;have h1:=yy h (fi s).length;rw[take_length]at h1;have h2:=lM s;have h3:(m8 s).1.bytes.length=gk s:=by
  unfold m8;rw[List.length_take];omega
 exact⟨h1,by rw[h3];show(fN (fi (m8 s).1)).length=_;rw[show fi (m8 s).1=fi s from h1];rfl,h3⟩
theorem DT{limit start:Int}(h:lz limit start=true):fS ⟨limit,start,[⟨start,[]⟩]⟩=0:=by
 have:=(gM.1 h);exact s6 h (by simp) ⟨⟨⟨gt.2 ⟨rfl,this.2⟩,by show(0:Int)≤limit;omega⟩,fun a ha=>by cases ha⟩,trivial⟩ (by simp)
theorem uf{α:Type}{l:List α}{k:Nat}{x:α}(h:l[k]?=some x):l=l.take k++x :: l.drop (k+1):=by
 obtain⟨h1,h2⟩:=List.getElem?_eq_some_iff.1 h
 conv=>lhs;rw[← List.take_append_drop k l,List.drop_eq_getElem_cons h1,h2]
theorem F142:Fun Tryz.prog 142 9 v142 c142 o142:=Fun.mkA Tryz.func142 Tryz.ntmps142
theorem F103:Fun Tryz.prog 103 15 v103 c103 o103:=Fun.mkA Tryz.func103 Tryz.ntmps103
theorem F112:Fun Tryz.prog 112 20 v112 c112 o112:=Fun.mkA Tryz.func112 Tryz.ntmps112
theorem F113:Fun Tryz.prog 113 17 v113 c113 o113:=Fun.mkA Tryz.func113 Tryz.ntmps113
theorem F115:Fun Tryz.prog 115 7 v115 c115 o115:=Fun.mkA Tryz.func115 Tryz.ntmps115
theorem F63:Fun Tryz.prog 63 13 v63 c63 o63:=Fun.mkA Tryz.func63 Tryz.ntmps63
theorem F206:Fun Tryz.prog 206 15 v206 c206 o206:=Fun.mkA Tryz.func206 Tryz.ntmps206
theorem F62:Fun Tryz.prog 62 56 v62 c62 o62:=Fun.mkA Tryz.func62 Tryz.ntmps62
theorem F22:Fun Tryz.prog 22 8 v22 c22 o22:=Fun.mkA Tryz.func22 Tryz.ntmps22
def eG(l:Lg)(A:Ky)(c:Nat):Kt:=[.int .i64 l.limit,.int .i64 l.start,.slice A l.segs.length c]
def LE(G:Ks)(l:Lg)(cs:Kt):Prop:=∃ A c,cs=eG l A c∧SlV G (SE G) 2 (.slice A l.segs.length c) l.segs∧I64 l.limit∧I64 l.start
def smL(l:List Sg):Prop:=∀ s∈l,s.bytes.length≤100000
theorem SlSE.le{G G':Ks}(hg:Gle G G'){v:Value}{l:List Sg}(h:SlV G (SE G) 2 v l):SlV G' (SE G') 2 v l:=by
 obtain⟨A,c,h1,h2,h3,h4⟩:=h;exact⟨A,c,h1,h2,h3,h4.le hg fun _ _ h=>SE.le hg h⟩
theorem LE.le{G G':Ks}(hg:Gle G G'){l:Lg}{cs:Kt}(h:LE G l cs):LE G' l cs:=by
 obtain⟨A,c,h1,h2,h3⟩:=h;exact⟨A,c,h1,SlSE.le hg h2,h3⟩
theorem od(n:Int)(G:Ks):FnS Tryz.prog 142 #[.int .i64 n] G (.bool (inO n)):=by
 refine F142.fnS (by simp) (dY ?_);unfold c142;intros;refine gR 0 0 c142r0.eq_1 ?_;intros;refine gR 3 9 c142r1.eq_1 ?_;refine gdD (fun h=>?_) (fun h=>?_)
 ·refine sI ?_;intros;refine rW ?_;rw[inO,decide_eq_true h,Bool.true_and]
 ·refine sI ?_;intros;refine rW ?_;rw[inO,decide_eq_false h,Bool.false_and]
theorem x9(a b:Int)(G:Ks):FnS Tryz.prog 103 #[.int .i64 a,.int .i64 b] G (.bool (lz a b)):=by
 refine F103.fnS (by simp) (dY ?_);unfold c103;intros;refine gR 0 0 c103r0.eq_1 ?_;intros;refine gR 5 15 c103r1.eq_1 ?_;refine gd (fun h=>?_) (fun h=>?_)
 ·refine sI ?_;refine gd (fun h2=>?_) (fun h2=>?_)
  ·refine sI ?_;refine fK (od _ _ _ _) ?_;intros;refine rW ?_;rw[lz,h,h2,Bool.true_and,Bool.true_and]
  ·refine sI ?_;intros;refine rW ?_;rw[lz,h2,Bool.and_false,Bool.false_and]
 ·refine sI ?_;intros;refine rW ?_;rw[lz,h,Bool.false_and,Bool.false_and]
theorem tN(s:Sg)(cs:Kt)(G:Ks)(hs:SE G s cs)(hb:s.bytes.length≤1000000):FnS Tryz.prog 112 #[.agg cs.toArray] G (.bool (fL s)):=by
 have hscan:=pi s cs G hs hb;obtain⟨A,c,rfl,hl,hi⟩:=hs;have hd:decide (((gk s:Nat):Int)=((s.bytes.length:Nat):Int))=decide (gk s=s.bytes.length):=decide_eq_decide.2 (by omega);refine F112.fnS (by simp) (dY ?_);unfold c112;unfold gh at hscan ⊢;intros;refine gR 0 0 c112r0.eq_1 ?_;intros;refine gR 5 10 c112r1.eq_1 ?_;refine(hscan _ _).mono ?_;rintro r h' ⟨G1,L',rfl,hg1,u,zc,rfl,hzc,rfl⟩;refine sI ?_
 intros;refine gR 11 20 c112r2.eq_1 ?_;refine fK (od _ _ _ _) ?_;refine gd (fun k1=>?_) (fun k1=>?_)
 ·refine sJ @hd ?_;intros;refine rW ?_;rw[fL,k1,Bool.true_and]
 ·refine sI ?_;intros;refine rW ?_;rw[fL,k1,Bool.false_and]
theorem oJ(s t:Sg)(cs ds:Kt)(G:Ks)(hs:SE G s cs)(ht:SE G t ds)(hb:s.bytes.length≤1000000):FnS Tryz.prog 113 #[.agg cs.toArray,.agg ds.toArray] G (.bool (oB s t)):=by
 have hend:=vL s cs G hs hb;obtain⟨A,c,rfl,hl,hi⟩:=hs;obtain⟨B,d,rfl,hm,hj⟩:=ht;refine F113.fnS (by simp) (dY ?_);unfold c113;unfold gh at hend ⊢;intros;refine gR 0 0 c113r0.eq_1 ?_;intros;refine dT ?_;refine lk _ KJ (by decide) ?_;refine sJ c113r1.eq_1 ?_;refine gx (fun k1=>?_) (fun k1=>?_)
 ·refine sI ?_;refine fK (hend _ _) ?_;intros;refine rW ?_;rw[oB,k1,Bool.true_and]
 ·refine sI ?_;intros;refine rW ?_;rw[oB,k1,Bool.false_and]
theorem wr(l:Lg)(A:Ky)(c:Nat)(G:Ks)(hl:l.segs.length≤1000000):FnS Tryz.prog 115 #[.agg #[.int .i64 l.limit,.int .i64 l.start,.slice A l.segs.length c]] G (.int .i64 ((l.segs.length:Int) - 1)):=by
 have hw:IntKind.i64.wrap ((l.segs.length:Int) - 1)=(l.segs.length:Int) - 1:=by rw[ei] <;> omega
 refine F115.fnS (by simp) (dY ?_);unfold c115;intros;refine gR 0 0 c115r0.eq_1 ?_;intros;refine gR2 4 7 c115r1.eq_1 @hw ?_;intros;refine rV ?_;simp only[push_cast,Nat.reduceBEq]
theorem yh(l:Lg)(cs:Kt)(G:Ks)(hl:LE G l cs)(hb:smL l.segs)(hn:l.segs≠[])(hm:l.segs.length≤1000000):FnS Tryz.prog 63 #[.agg cs.toArray] G (.int .i64 (uA l)):=by
 obtain⟨A,c,rfl,hsl,hi,hj⟩:=hl;obtain⟨A0,c0,he,hc,hmx,hA⟩:=hsl;cases he;obtain⟨s,e1,e2,e3⟩:=jF hn;have h0:0 < l.segs.length:=List.length_pos_iff.2 hn;refine F63.fnS (by simp) (dY ?_);unfold c63 eG;intros;refine gR 0 0 c63r0.eq_1 ?_;intros;refine dT ?_;refine lk _ KJ (by decide) ?_;refine sJ c63r1.eq_1 ?_;refine fK (wr l A c _ hm _ _) ?_;refine hA.y_ld e1 (by omega) rfl ?_;rintro a1 ha1 cs hse
 have hend:=vL s cs G hse (by have:=hb s (mem_of_getElem? e1);omega);obtain⟨B,d,rfl,-⟩:=hse;unfold gh at hend ⊢;refine sI ?_;refine fK (hend _ _) ?_;intros;refine rW ?_;rw[uA,e3];rfl
theorem uU(l:Lg)(off:Int)(cs:Kt)(G:Ks)(hl:LE G l cs)(hb:smL l.segs)(hn:l.segs≠[])(hm:l.segs.length≤1000000):FnS Tryz.prog 206 #[.agg cs.toArray,.int .i64 off] G (.bool (AM l off)):=by
 have hend:=yh l cs G hl hb hn hm;obtain⟨A,c,rfl,hsl,hi,hj⟩:=hl;refine F206.fnS (by simp) (dY ?_);unfold c206;unfold eG at hend ⊢;intros;refine gR 0 0 c206r0.eq_1 ?_;intros;refine gR 6 15 c206r1.eq_1 ?_;refine gd (fun k1=>?_) (fun k1=>?_)
 ·refine sI ?_;refine fK (hend _ _) ?_;intros;refine rW ?_;rw[AM,k1,Bool.true_and]
 ·refine sI ?_;intros;refine rW ?_;rw[AM,k1,Bool.false_and]
theorem lT{l:List Sg}{k:Nat}{a:Sg}(hk:0 < k)(h:l[k - 1]?=some a):kg none (l.take k)=some a:=by
 have:=oh none h
 rwa [Nat.sub_add_cancel hk]at this
theorem we{l:Lg}{k:Nat}{s:Sg}(hs:l.segs[k]?=some s)(h:¬ AK l.limit (kg none (l.segs.take k)) s):fS l=1:=by
 unfold fS;rw[if_neg];rintro⟨-,-,h3⟩;exact h ((pw hs).1 (Dc h3 (k+1))).2
theorem jY(l:Lg)(cs:Kt)(G:Ks)(hl:LE G l cs):FnS Tryz.prog 62 #[.agg cs.toArray] G (.int .i64 (fS l)):=by
 obtain⟨A,c,rfl,hsl,hi,hj⟩:=hl;obtain⟨A0,c0,he,hc,hmx,hA⟩:=hsl;cases he;refine F62.fnS (by simp) (dY ?_);unfold c62 eG;intros;refine gR 0 0 c62r0.eq_1 ?_;intros;refine gR 6 16 c62r1.eq_1 ?_;refine fK (x9 _ _ _ _ _) ?_;refine gd (fun k1=>?_) (fun k1=>?_)
 ·have k1:lz l.limit l.start=false:=by simpa using k1
  refine sI ?_;intros;refine gC ?_;intros;refine gR 0 0 c62r2.eq_1 ?_;intros;refine rW ?_;rw[fS,if_neg (by rw[k1];simp)]
 have k1:lz l.limit l.start=true:=by simpa using k1
 refine sI ?_;intros;refine gC ?_;refine gb (fun k2=>?_) (fun k2=>?_)
 ·have k2:l.segs=[]:=List.eq_nil_of_length_eq_zero (by have:=KM k2;omega);intros;refine gR 0 0 c62r2.eq_1 ?_;intros;refine rW ?_;rw[fS,if_neg (by rw[k2];simp)]
 have k2:l.segs≠[]:=fun h=>by rw[h]at k2;simp at k2
 intros;refine gN ?_;intros;refine gR 0 0 c62r3.eq_1 ?_;intros;refine eL (fun e h=>okS l.limit none l.segs∧h=⟨G,[.reg 1 [.int .i64 l.limit,.int .i64 l.start,.slice A l.segs.length c]],[]⟩) ?_ ?_
 ·intros;refine dT ?_;refine ej (fun e h=>∃ k:Nat,(k≤l.segs.length∧okS l.limit none (l.segs.take k))∧e 20=.int .i64 k∧e 19=.int .i64 l.segs.length∧e 18=.slice A l.segs.length c∧h=⟨G,[.reg 1 [.int .i64 l.limit,.int .i64 l.start,.slice A l.segs.length c]],[]⟩) (fun e h=>l.segs.length - iv (e 20)) ?_ ?_
  ·exact⟨0,⟨Nat.zero_le _,trivial⟩,eE,eE,eE,rfl⟩
  rintro e h ⟨k,⟨hk,hok⟩,e20,e19,e18,rfl⟩;refine dV [18,19,20] ?_;refine sJ3 @e18 @e19 @e20 ?_;intros;refine gR 0 0 c62r4.eq_1 ?_;intros;refine gC ?_;refine gb (fun ht=>?_) (fun ht=>?_)
  ·have ht:k < l.segs.length:=by have:=KM ht;omega
   have hw:=eW k c (by omega) hmx;obtain⟨s,hs⟩:∃ s,l.segs[k]?=some s:=⟨l.segs[k],getElem?_eq_getElem (by omega)⟩;have hlm:=(gM.1 k1).1.2;intros;refine gN ?_;intros;refine gR 22 25 c62r5.eq_1 ?_;refine hA.x_ld hs rfl rfl ?_;rintro a1 ha1 cs hse;have hse0:=hse;have hwh:=tN s cs G hse;obtain⟨B,d,rfl,hsb,hsi⟩:=hse;unfold gh at hwh hse0 ⊢;refine sI ?_
   have hno:∀ (fr:KA) (e:Env) (X:Kv),¬ AK l.limit (kg none (l.segs.take k)) s→go none Tryz.prog 56 v62.1 v62.2 (fI o62 fun v h=>v=.int .i64 (fS l)) (Td.s ((SC.reg false c62r7).seq .ret) :: fr) e ⟨G,X,[]⟩:=fun fr e X hn=>by
    intros;refine gR 0 0 c62r7.eq_1 ?_;intros;refine rW ?_;rw[we hs hn]
   have hnx:AK l.limit (kg none (l.segs.take k)) s→okS l.limit none (l.segs.take (k+1)):=fun h=>(pw hs).2 ⟨hok,h⟩
   intros;refine dT ?_;refine lk _ KJ (by decide) ?_;refine sJ c62r6.eq_1 ?_;refine gxD (fun k3=>?_) (fun k3=>?_)
   ·refine sI ?_;intros;refine gC ?_;exact hno _ _ _ fun h=>by have:=h.1.2;omega
   refine sI ?_;refine fK (hwh (by omega) _ _) ?_;refine gx (fun k4=>?_) (fun k4=>?_)
   ·have k4:fL s=false:=by simpa using k4
    refine sI ?_;intros;refine gC ?_;exact hno _ _ _ fun h=>by have:=h.1.1;rw[k4]at this;cases this
   have k4:fL s=true:=by simpa using k4
   refine sI ?_;refine gx (fun k5=>?_) (fun k5=>?_)
   ·have k5:0 < k:=by have:=KM k5;omega
    have hw1:IntKind.i64.wrap ((k:Int) - 1)=(k:Int) - 1:=by unfold maxLen at hmx;rw[ei] <;> omega
    obtain⟨p,hp⟩:∃ p,l.segs[k - 1]?=some p:=⟨l.segs[k - 1],getElem?_eq_getElem (by omega)⟩;have hbp:=(sG hok p (mem_of_getElem? (i:=k - 1) (by rw[List.getElem?_take,if_pos (by omega)];exact hp))).2;have hep:=lT k5 hp;refine sJ @hw1 ?_;refine hA.y_ld hp (by omega) rfl ?_;rintro a2 ha2 cs2 hpe;have hfo:=oJ p s cs2 _ G hpe hse0 (by omega);obtain⟨B2,d2,rfl,-⟩:=hpe;unfold gh at hfo ⊢
    refine sI ?_;refine fK (hfo _ _) ?_;intros;refine gC ?_;refine gb (fun k6=>?_) (fun k6=>?_)
    ·have k6:oB p s=false:=by simpa using k6
     exact hno _ _ _ fun h=>by have:=h.2 p hep;rw[k6]at this;cases this
    ·have k6:oB p s=true:=by simpa using k6
     intros;refine gN ?_;refine dU (dX (L':=[.reg 1 [.int .i64 l.limit,.int .i64 l.start,.slice A l.segs.length c]]) (.cons _ KJ)) ?_;intros;refine gR2 51 52 c62r8.eq_1 @hw ?_;intros;refine dT ?_;refine eF ⟨⟨k+1,⟨by omega,hnx ⟨⟨k4,by omega⟩,fun a ha=>by rw[hep]at ha;cases ha;exact k6⟩⟩,eE,eE,eE,rfl⟩,?_⟩;refine sI ?_;omega
   ·have k5:k=0:=by have:=KN k5;omega
    refine sI ?_;intros;refine gC ?_;refine dU (dX (L':=[.reg 1 [.int .i64 l.limit,.int .i64 l.start,.slice A l.segs.length c]]) (.cons _ KJ)) ?_;intros;refine gR2 51 52 c62r8.eq_1 @hw ?_;intros;refine dT ?_;refine eF ⟨⟨k+1,⟨by omega,hnx ⟨⟨k4,by omega⟩,fun a ha=>by rw[k5]at ha;cases ha⟩⟩,eE,eE,eE,rfl⟩,?_⟩;refine sI ?_;omega
  ·have ht:k=l.segs.length:=by have:=KN ht;omega
   subst ht;rw[take_length]at hok;refine eg ?_;refine sI ?_;intros;refine gN ?_;exact eF ⟨hok,rfl⟩
 rintro e h ⟨hok,rfl⟩;refine dV [] ?_;intros;have hd:decide ((l.segs.length:Int) > 256)=decide (256 < l.segs.length):=decide_eq_decide.2 (by omega);intros;refine gR 53 55 c62r9.eq_1 ?_;intros;refine gC ?_;refine gbD (fun k3=>?_) (fun k3=>?_)
 ·intros;refine gR 0 0 c62r10.eq_1 ?_;intros;refine rW ?_;rw[fS,if_pos ⟨k1,k2,hok⟩,if_pos (by omega)]
 ·intros;refine gN ?_;intros;refine gR 0 0 c62r11.eq_1 ?_;intros;refine rW ?_;rw[fS,if_pos ⟨k1,k2,hok⟩,if_neg (by omega)]
theorem sP(l:Lg)(cs:Kt)(G:Ks)(hl:LE G l cs)(hb:smL l.segs)(hm:l.segs.length≤1000000):FnS Tryz.prog 22 #[.agg cs.toArray] G (.int .i64 (fg l)):=by
 have hchk:=jY l cs G hl;have hend:=yh l cs G hl hb;obtain⟨A,c,rfl,hsl,hi,hj⟩:=hl;refine F22.fnS (by simp) (dY ?_);unfold c22;unfold eG at hchk hend ⊢;intros;refine gR 0 0 c22r0.eq_1 ?_;intros;refine gR 3 5 c22r1.eq_1 ?_;refine fK (hchk _ _) ?_;intros;refine gC ?_;refine gb (fun k1=>?_) (fun k1=>?_)
 ·have k1:=KM k1;intros;refine gR 0 0 c22r2.eq_1 ?_;intros;refine rW ?_;rw[fg,if_neg k1]
 ·have k1:fS l=0:=by simpa using k1
  intros;refine gN ?_;intros;refine gR 6 8 c22r3.eq_1 ?_;refine fK (hend (ib k1).2.1 hm _ _) ?_;intros;refine rW ?_;rw[fg,if_pos k1]
end Go.Proofs.YtpmofpekcbghnaaGreat
namespace Go.Proofs.YtpmofpekcbghnaaGreat
open Go Go.Kx Go.RowKit
open List (getElem?_eq_getElem mem_of_getElem? length_append append_nil take_length)
theorem uK(W:World):ip Tryz.prog W 31 (fun(l:List Sg) cs=>∃ A c,cs=[.slice A l.length c]∧l.length≤c∧c≤maxLen∧SlA (pF W) (SE (pF W)) 2 A l) :=
 iW Tryz.underlying31 (by kernel_rfl) (wE W)
theorem qK(W:World):ip Tryz.prog W 33 (LE (pF W)):=fun H enc fuel cs x hx=>by
 obtain⟨hl,hf⟩:=jp Tryz.underlying33 (by kernel_rfl) (by kernel_rfl) hx;obtain⟨v0,_,_,c0,t0⟩:=hf 0 _ rfl;obtain⟨v1,_,_,c1,t1⟩:=hf 1 _ rfl;obtain⟨v2,_,_,c2,t2⟩:=hf 2 _ rfl;obtain⟨n0,e0,w0⟩:=(f0 Tryz.underlying3).at_ t0;obtain⟨n1,e1,w1⟩:=(f0 Tryz.underlying3).at_ t1;obtain⟨n2,A,c,e2,w2⟩:=(uK W).at_ t2;cases e0;cases e1;cases e2;refine⟨⟨n0,n1,n2⟩,A,c,?_,⟨A,c,rfl,w2⟩,jI w0,jI w1⟩
 match cs,hl with
 | [_,_,_],_=>cases c0;cases c1;cases c2;rfl
end Go.Proofs.YtpmofpekcbghnaaGreat
namespace Go.Proofs.YtpmofpekcbghnaaGreat
open Go Go.Kx
open List (getElem?_eq_getElem mem_of_getElem? length_append append_nil take_length)
theorem F86:Fun Tryz.prog 86 8 v86 c86 o86:=Fun.mkA Tryz.func86 Tryz.ntmps86
theorem F122:Fun Tryz.prog 122 11 v122 c122 o122:=Fun.mkA Tryz.func122 Tryz.ntmps122
theorem F46:Fun Tryz.prog 46 17 v46 c46 o46:=Fun.mkA Tryz.func46 Tryz.ntmps46
theorem F69:Fun Tryz.prog 69 89 v69 c69 o69:=Fun.mkA Tryz.func69 Tryz.ntmps69
def LgR(p:Lg × Int)(G:Ks)(r:Value):Prop:=∃ cs,r=.tuple #[.agg cs.toArray,.int .i64 p.2]∧LE G p.1 cs
theorem slN{α:Type}{G:Ks}{E:α→Kt→Prop}{sz:Nat}:SlV G E sz (.slice none 0 0) []:=⟨none,0,rfl,Nat.le_refl _,Nat.zero_le _,fun i x hx=>by simp at hx⟩
theorem jh:I64 0:=by unfold I64;decide
theorem gV{p:Int}{G:Ks}:LgR (hH,p) G (.tuple #[.agg #[.int .i64 0,.int .i64 0,.slice none 0 0],.int .i64 p]):=⟨_,rfl,none,0,rfl,slN,jh,jh⟩
theorem SE1:∀ {G:Ks} (x:Sg) cs,SE G x cs→∀ u∈cs,u.oneCell'=true:=fun x cs h u hu=>by
 obtain⟨A,c,rfl,-⟩:=h;simp[gh]at hu;rcases hu with rfl | rfl <;> rfl
theorem nX(l:List Sg)(v:Value)(G:Ks)(hl:SlV G (SE G) 2 v l)(hb:l.length≤100000):FnO Tryz.prog 86 #[v] G [] (fun _ L' r=>ya (SE G) 120 2 l L' r):=by
 refine F86.fnO (by simp) dS (dY ?_);have hl0:=hl;obtain⟨A,c,rfl,hc,hm,hA⟩:=hl;unfold c86;intros;refine gR 0 0 c86r0.eq_1 ?_;intros;refine gR 3 4 c86r1.eq_1 ?_;intros;refine gC ?_;refine gb (fun ht=>?_) (fun ht=>?_)
 ·intros;refine gR 0 0 c86r2.eq_1 ?_;intros;refine dT ?_;have hA0:l=[]:=by
   match l,hA with
   | [],_=>rfl
   | x :: xs,hA=>obtain⟨a,_,ha,_⟩:=hA 0 x rfl;subst ha;cases ht
  subst hA0;refine dU (eA none 120 2) ?_;refine ea (ee _ rfl KJ (dW dS) ?_);exact⟨[],.nil,rfl⟩
 ·intros;refine gN ?_;intros;refine gR 5 8 c86r3.eq_1 ?_;intro b hb';refine j5 (.inr ⟨⟨_,rfl⟩,rfl,rfl,rfl,rfl⟩) hl0 rfl SE1 ⟨by omega,by unfold maxLen;omega⟩ fun ys A c hc=>?_
  simp only[Nat.zero_add];refine sI ?_;intros;refine dT ?_;refine ea (ee _ rfl KJ (dW dS) ?_);exact⟨ys,hc,rfl⟩
theorem jd{α:Type}{P:Program}{f:FuncId}{args:Array Value}{G:Ks}{E:α→Kt→Prop}{et sz:Nat}{zs:List α}(hf:FnO P f args G [] (fun _ L' r=>ya E et sz zs L' r)):
  FnO P f args G [] (fun _ L' r=>∃ A c ys,r=.slice A zs.length c∧(zs.length≤c∧c≤maxLen)∧Cells E sz zs ys∧L'=[.row r et sz zs.length ys]):=fun L D =>
 (hf L D).gx fun v h' ⟨G',L',he,hg,ys,hc,hL⟩=>by
  subst he hL;exact(gL (.head _)).mono fun h' ⟨h1,A,c,h2,h3,h4⟩=>⟨G',_,h1,hg,A,c,ys,h2,⟨h3,h4⟩,hc,rfl⟩
theorem mA(a b:Int)(B C:Ky)(m d m' d':Nat)(G:Ks):FnS Tryz.prog 122 #[.agg #[.int .i64 a,.int .i64 b,.slice B m d],.slice C m' d'] G (.agg #[.int .i64 a,.int .i64 b,.slice C m' d']):=by
 refine F122.fnS (by simp) (dY ?_);unfold c122;intros;refine gR 0 0 c122r0.eq_1 ?_;intros;refine gR 6 11 c122r1.eq_1 ?_;intros;refine rV ?_;simp only[push_cast,Nat.reduceBEq]
theorem Ko{G:Ks}{A:Ky}{l:List Sg}(h:SlA G (SE G) 2 A l):∀ s∈l,I64 s.base:=fun s hs=>by
 obtain⟨i,hi⟩:=List.mem_iff_getElem?.1 hs;obtain⟨a,cs,_,_,⟨_,_,_,_,h⟩,_⟩:=h i s hi;exact h
theorem Jw{α:Type}{E:α→Kt→Prop}{P:Program}{h:H}{d sz et nb:Nat}{l:Ku}{e:Env}{K:KH}{u:Value}{b:Nat}{zs:List α}{zc cs:Kt}{L2:Kv}{x:α}(hL:h.L=.row u et sz zs.length zc :: .row (.slice (some ⟨b,0,none⟩) 1 1) et sz 1 cs :: L2)
  (hE:E x cs) (hl:cs.length=sz) (h1:∀ u∈cs,u.oneCell'=true) (hc:Cells E sz zs zc) (hz:zs.length≤1000000) (hnb:nb≤1000)
  (hk:∀ A' c' zc',Cells E sz (zs++[x]) zc'→kR P l d e K (.slice A' (zs++[x]).length c') ⟨h.G,.row (.slice A' (zs++[x]).length c') et sz (zs++[x]).length zc' :: .row (.slice (some ⟨b,0,none⟩) 1 1) et sz 1 cs :: L2,h.D⟩) :
  apX P u (.slice (some ⟨b,0,none⟩) 1 1) et sz nb d l e h K:=by
 refine⟨[],zs.length,zc,.row (.slice (some ⟨b,0,none⟩) 1 1) et sz 1 cs :: L2,1,cs,.inl hL,kO (h:=h) (by rw[hL];exact .tail _ (.head _)) h1 (by rw[hl,Nat.one_mul]),⟨?_,by unfold maxLen;omega⟩,fun A' c'=>?_⟩
 ·have:(zs.length+1) * nb≤1000001 * 1000:=Nat.mul_le_mul (by omega) hnb;omega
 ·have:=hk A' c' (zc++cs) (hc.app (.one hE hl));simp only[length_append,List.length_cons,List.length_nil,Nat.zero_add]at this;exact this
theorem rc{P:Program}{f:FuncId}{args:Array Value}{h:H}{R:Value→H→Prop}{M:H→Prop}(hE:iy P f)(hg:fc h M)(hc:∀ h',M h'→eS P f args h' R):eS P f args h R :=
 ⟨hE,fun β w hs=>by
  obtain⟨h',m,s1,t1,d1,r1⟩:=hg β w hs
  exact((hc h' m).2 β w s1).mono fun _ _ ⟨v,h2,a,⟨b1,b2⟩,c,d,r⟩=>⟨v,h2,a,⟨b1.trans d1,r1.trans b2⟩,c,t1.trans d,r⟩⟩
theorem Ca{a b:Int}(h:lz a b=true):I64 a∧I64 b:=by
 have:=gM.1 h;have h2:=iw.1 this.2;constructor <;> (unfold I64;omega)
theorem CN(limit start:Int)(G:Ks):FnD Tryz.prog 46 #[.int .i64 limit,.int .i64 start] G (LgR (x8 limit start)):=by
 refine F46.fnD (by simp) (dY ?_);unfold c46;intros;refine gR 0 0 c46r0.eq_1 ?_;intros;refine gR 6 9 c46r1.eq_1 ?_;refine fK (x9 _ _ _ _ _) ?_;intros;refine gC ?_;refine gb (fun h=>?_) (fun h=>?_)
 ·have h:lz limit start=false:=by simpa using h
  intros;refine gR 10 11 c46r2.eq_1 ?_;intros;refine rW ?_;rw[x8,h];exact gV
 ·have h:lz limit start=true:=by simpa using h
  have hi:=Ca h;intros;refine gN ?_;intros;refine gR 11 17 c46r3.eq_1 ?_;intro b hb;refine sI ?_;intros;try refine ed ?_
  refine eI (eh [] _ (by decide) (Cells.one (E:=SE G) (x:=⟨start,[]⟩) ⟨none,0,rfl,SB.nil,hi.2⟩ rfl)) ?_;rintro h' ⟨G1,rfl,hg1,hv1⟩;intros;refine rW ?_;rw[x8,if_pos h];exact⟨_,rfl,_,1,rfl,hv1.le (.refl _) fun _ _ h=>SE.le hg1 h,hi.1,hi.2⟩
set_option maxHeartbeats 1000000 in
theorem oP(l:Lg)(x:Batch)(cs ds:Kt)(G:Ks)(hl:LE G l cs)(hb:smL l.segs)(hm:l.segs.length≤1000)(hx:BE G x ds):
  FnD Tryz.prog 69 #[.agg cs.toArray,.agg ds.toArray] G (LgR (j6 l x)):=by
 have hl0:=hl;have hx0:=hx;have hchk:=jY l cs G hl;have hend:=yh l cs G hl hb;have hbc:=lX x ds G hx;have hsz:=DE x ds G hx;obtain⟨A,c,rfl,hsl,hi,hj⟩:=hl;obtain⟨A0,c0,he,hc,hmx,hA⟩:=hsl;cases he;obtain⟨B,d,rfl,-⟩:=hx;refine F69.fnD (by simp) (dY ?_);unfold c69;unfold eG at hchk hend hl0 ⊢;unfold fu at hbc hsz hx0 ⊢;intros;refine gR 0 0 c69r0.eq_1 ?_;intros;refine gR 11 13 c69r1.eq_1 ?_
 refine fK (hchk _ _) ?_;intros;refine gR 13 14 c69r2.eq_1 ?_;intros
 refine eL (fun e h=>e 6=.int .i64 (if fS l=0 then fM x else fS l)∧h=⟨G,[.reg 4 [.int .i64 0,.int .i64 0,.slice none 0 0],.reg 3 [.int .i64 x.base,.int .i64 x.last,.int .i64 x.src,.int .i64 x.epoch,.int .i64 x.pid,.int .i64 x.gen,.int .i64 x.seq,.bool x.txn,.int .i64 x.ctl,.slice B x.recs.length d],.reg 2 [.int .i64 l.limit,.int .i64 l.start,.slice A l.segs.length c]],[]⟩) ?_ ?_
 ·intros;refine gC ?_;refine gbD (fun k1=>?_) (fun k1=>?_)
  ·intros;refine gR 15 17 c69r3.eq_1 ?_;refine fK (hbc _ _) ?_;intros;refine dT ?_;have h6:(if fS l=0 then fM x else fS l)=fM x:=if_pos k1;exact eF ⟨(eJ @h6),rfl⟩
  ·intros;refine dT ?_;have h6:(if fS l=0 then fM x else fS l)=fS l:=if_neg k1;exact eF ⟨(eJ @h6),rfl⟩
 rintro e h ⟨e6,rfl⟩;refine dV [6] ?_;refine sJ @e6 ?_;have hno:¬ (fS l=0∧fM x=0)→¬ (if fS l=0 then fM x else fS l)=0:=fun h h2=>by
  by_cases k:fS l=0
  ·rw[if_pos k]at h2;exact h ⟨k,h2⟩
  ·rw[if_neg k]at h2;exact k h2
 have happ:¬ (fS l=0∧fM x=0)→j6 l x=(hH,if fS l=0 then fM x else fS l):=fun h=>by
  unfold j6;by_cases k:fS l=0
  ·rw[if_pos k,if_pos k,if_neg fun h2=>h ⟨k,h2⟩]
  ·rw[if_neg k,if_neg k]
 have hyes:fS l=0∧fM x=0→(if fS l=0 then fM x else fS l)=0:=fun h=>by rw[if_pos h.1,h.2]
 generalize (if fS l=0 then fM x else fS l)=er at *;intros;intros;refine gR 18 20 c69r4.eq_1 ?_;intros;refine gC ?_;refine gb (fun k1=>?_) (fun k1=>?_)
 ·have k1:=KM k1;intros;refine gR 20 22 c69r5.eq_1 ?_;intros;refine rW ?_;rw[happ fun h=>k1 (hyes h)];exact gV
 have k1:er=0:=by simpa using k1
 have k2:fS l=0∧fM x=0:=Decidable.not_not.1 fun h=>hno h k1
 clear happ hno hyes;obtain⟨k0,k1⟩:=k2;obtain⟨c1,c2,c3,c4⟩:=ib k0;obtain⟨s,e1,e2,e3,e4,e5⟩:=o4 k0;have h0:0 < l.segs.length:=List.length_pos_iff.2 c2;have hz:Dp x=(eu x).length:=by rw[Dp,vK k1]
 rw[hz]at hsz;have hlim:=gM.1 c1;refine sI ?_;intros;refine dT ?_;refine lk _ KJ (by decide) ?_;refine sJ c69r6.eq_1 ?_;refine fK (hend c2 (by omega) _ _) ?_;intros;refine gC ?_;refine gbD (fun k2=>?_) (fun k2=>?_)
 ·intros;refine gR 28 29 c69r7.eq_1 ?_;intros;refine rW ?_;rw[j6,if_pos k0,if_pos k1,if_pos k2];exact gV
 intros;refine gN ?_;intros;refine dT ?_;refine lk _ KJ (by decide) ?_;refine sJ c69r8.eq_1 ?_;refine fK (hsz _ _) ?_;intros;refine gC ?_;refine gbD (fun k3=>?_) (fun k3=>?_)
 ·intros;refine gR 35 36 c69r9.eq_1 ?_;intros;refine rW ?_;rw[j6,if_pos k0,if_pos k1,if_neg k2,if_pos k3];exact gV
 intros;refine gN ?_;intros;refine gR 36 38 c69r10.eq_1 ?_;refine fK (wr l A c _ (by omega) _ _) ?_;intros;intros;try refine ed ?_
 intros;try refine ed ?_
 refine eL (fun e h=>∃ (G':Ks) (b8:Nat) (A3:Ky) (c3:Nat),(Gle G G'∧SB G' (.slice A3 (jM s x l.limit).1.bytes.length c3) (jM s x l.limit).1.bytes)∧e 7=.int .i64 ((l.segs.length:Int) - 1)∧e 8=.pointer (some ⟨b8,0,none⟩)∧e 9=.int .i64 (jM s x l.limit).2∧h=⟨G',[.blk b8 [.int .i64 (jM s x l.limit).1.base,.slice A3 (jM s x l.limit).1.bytes.length c3],.reg 4 [.int .i64 0,.int .i64 0,.slice none 0 0],.reg 3 [.int .i64 x.base,.int .i64 x.last,.int .i64 x.src,.int .i64 x.epoch,.int .i64 x.pid,.int .i64 x.gen,.int .i64 x.seq,.bool x.txn,.int .i64 x.ctl,.slice B x.recs.length d],.reg 2 [.int .i64 l.limit,.int .i64 l.start,.slice A l.segs.length c]],[]⟩) ?_ ?_
 ·intros;refine dT ?_;refine zK _ KJ (by decide) ?_;refine sJ c69r11.eq_1 ?_;refine hA.y_ld e1 (by omega) rfl ?_;rintro a1 ha1 cs hse;have hapd:=rH s x l.limit cs _ G hse (hb s (mem_of_getElem? e1)) hx0 hi;obtain⟨B1,d1,rfl,hsb,hsi⟩:=hse;unfold gh at hapd ⊢;refine sI ?_;refine⟨?_,?_⟩
  ·refine(mo hapd _ _).mono ?_;rintro r h' ⟨G1,rfl,hg1,A3,c3,rfl,hs1⟩;refine sI ?_;refine⟨lQ hg1,?_⟩;intro b8 hb8;refine⟨ef hg1 (.cons _ KJ),?_⟩;refine sI ?_;refine ek [] _ rfl (Nat.le_refl 2) ⟨rfl,rfl⟩ ?_;refine sI ?_;refine⟨ef hg1 (.cons _ KJ),?_⟩;refine sI ?_;exact eF ⟨G1,b8,A3,c3,⟨hg1,hs1⟩,eE,eE,eE,rfl⟩
  ·intro b8 hb8;refine⟨ef KO (.cons _ KJ),?_⟩;refine(mo hapd _ _).mono ?_;rintro r h' ⟨G1,rfl,hg1,A3,c3,rfl,hs1⟩;refine sI ?_;refine⟨ef hg1 (.cons _ KJ),?_⟩;refine sI ?_;refine ek [] _ rfl (Nat.le_refl 2) ⟨rfl,rfl⟩ ?_;refine sI ?_;refine⟨ef hg1 (.cons _ KJ),?_⟩;refine sI ?_;exact eF ⟨G1,b8,A3,c3,⟨hg1,hs1⟩,eE,eE,eE,rfl⟩
 rintro e h ⟨G1,b8,A3,c3,⟨hg1,hs1⟩,e7,e8,e9,rfl⟩;refine dV [7,8,9] ?_;refine sJ3 @e7 @e8 @e9 ?_;intros;refine eI jx ?_;rintro h' ⟨G2,rfl,hg2,f8⟩;have hs1:=SB.le hs1 hg2;have hg1:=hg1.trans hg2;have ht1:((l.segs.length:Int) - 1).toNat=l.segs.length - 1:=by omega
 intros;refine gR 50 51 c69r12.eq_1 ?_;intros;refine gC ?_;refine gb (fun k4=>?_) (fun k4=>?_)
 ·have k4:(jM s x l.limit).2=0:=KM k4;have hsl1:SlV G2 (SE G2) 2 (.slice A l.segs.length c) l.segs:=SlSE.le hg1 ⟨A,c,rfl,hc,hmx,hA⟩;have hpre:=SlV.pre (l.segs.length - 1) hsl1 (by omega);have hcl:=nX (l.segs.take (l.segs.length - 1)) _ G2 hpre (by simp;omega);have hlk:(l.segs.take (l.segs.length - 1)).length=l.segs.length - 1:=by simp
  have hxe:j6 l x=(⟨l.limit,l.start,l.segs.take (l.segs.length - 1)++[(jM s x l.limit).1]⟩,0):=by
   rw[j6,if_pos k0,if_pos k1,if_neg k2,if_neg k3,e3,if_pos k4]
  have hse2:SE G2 (jM s x l.limit).1 [.int .i64 (jM s x l.limit).1.base,.slice A3 (jM s x l.limit).1.bytes.length c3]:=by
   refine⟨A3,c3,rfl,hs1,?_⟩;obtain⟨-,-,-,-,hh⟩:=xv k4;rw[hh];exact Ko hA s (mem_of_getElem? e1)
  rw[hxe];clear hxe;generalize (jM s x l.limit).1=s' at *;rw[k4];intros;try refine ed ?_
  intros;refine dT ?_;refine zK _ (.cons _ KJ) (by decide) ?_;refine sJ c69r13.eq_1 ?_;refine⟨by omega,?_⟩;refine⟨_,⟨_,[.int .i64 s'.base,.slice A3 s'.bytes.length c3],rfl,rfl,rfl,fun j u hu=>.g (f8 j u hu)⟩,?_⟩;refine sJ @ht1 ?_;refine⟨?_,?_⟩
  ·refine(jd hcl _ _).mono ?_;rintro r h' ⟨G8,L',rfl,hg3,A4,c4,ys,rfl,-,hys,rfl⟩;refine sI ?_;refine⟨ef hg3 (.cons _ (.cons _ KJ)),?_⟩;intro b9 hb9;refine⟨ef hg3 (.cons _ (.cons _ (.cons _ KJ))),?_⟩;refine sI ?_;refine xj (L1:=[]) (L2:=[_,_,_]) (E:=SE G2) (x:=s') rfl hse2 rfl (by simp[Value.oneCell']) hys (by omega) (by omega) fun A' c' zc' hzc'=>?_
   dsimp only;generalize l.segs.take (l.segs.length - 1)++[s']=ZS at *;refine sI ?_;refine⟨ef hg3 (.cons _ (.cons _ (.cons _ KJ))),?_⟩;refine fK (mA _ _ _ _ _ _ _ _ _ _ _) ?_;refine⟨ef hg3 (.cons _ (.cons _ (.cons _ KJ))),?_⟩;refine sI ?_;refine⟨ef hg3 (.cons _ (.cons _ (.cons _ KJ))),?_⟩;refine sI ?_;intros;refine dT ?_;refine eI (eh [_] _ (by decide) hzc') ?_;rintro h' ⟨G9,rfl,hg9,hv9⟩
   intros;refine rW ?_;exact⟨_,rfl,A',c',rfl,hv9.le (.refl _) fun _ _ h=>SE.le (hg3.trans hg9) h,hi,hj⟩
  ·intro b9 hb9;refine⟨ef KO (.cons _ (.cons _ KJ)),?_⟩;refine(jd hcl _ _).mono ?_;rintro r h' ⟨G8,L',rfl,hg3,A4,c4,ys,rfl,-,hys,rfl⟩;refine sI ?_;refine⟨ef hg3 (.cons _ (.cons _ (.cons _ KJ))),?_⟩;refine sI ?_;refine Jw (L2:=[_,_,_]) (E:=SE G2) (x:=s') rfl hse2 rfl (by simp[Value.oneCell']) hys (by omega) (by omega) fun A' c' zc' hzc'=>?_
   dsimp only;generalize l.segs.take (l.segs.length - 1)++[s']=ZS at *;refine sI ?_;refine⟨ef hg3 (.cons _ (.cons _ (.cons _ KJ))),?_⟩;refine fK (mA _ _ _ _ _ _ _ _ _ _ _) ?_;refine⟨ef hg3 (.cons _ (.cons _ (.cons _ KJ))),?_⟩;refine sI ?_;refine⟨ef hg3 (.cons _ (.cons _ (.cons _ KJ))),?_⟩;refine sI ?_;intros;refine dT ?_;refine eI (eh [] _ (by decide) hzc') ?_;rintro h' ⟨G9,rfl,hg9,hv9⟩
   intros;refine rW ?_;exact⟨_,rfl,A',c',rfl,hv9.le (.refl _) fun _ _ h=>SE.le (hg3.trans hg9) h,hi,hj⟩
 have k4:=KN k4;clear hs1 f8;intros;refine gN ?_;have hd:decide ((l.segs.length:Int)=256)=decide (l.segs.length=256):=decide_eq_decide.2 (by omega);intros;refine gR2 63 65 c69r14.eq_1 @hd ?_;intros;refine gC ?_;refine gbD (fun k5=>?_) (fun k5=>?_)
 ·intros;refine gR 66 67 c69r15.eq_1 ?_;intros;refine rW ?_;rw[j6,if_pos k0,if_pos k1,if_neg k2,if_neg k3,e3,if_neg k4,if_pos k5];exact gV
 have hxe:j6 l x=(⟨l.limit,l.start,l.segs++[⟨x.base,eu x⟩]⟩,0):=by
  rw[j6,if_pos k0,if_pos k1,if_neg k2,if_neg k3,e3,if_neg k4,if_neg k5]
 have hof:=FU (xu c1) k1 (show((eu x).length:Int)≤l.limit by omega);have hxi:I64 x.base:=by obtain⟨_,_,_,_,h,-⟩:=hx0;exact h
 rw[hxe];clear hxe;intros;refine gN ?_;intros;refine gR 67 77 c69r16.eq_1 ?_;intro b9 hb9;refine sI ?_;refine rc F123.enters (eh [] _ (by decide) (Cells.one (E:=BE G2) (x:=x) (BE.le hg1 hx0) rfl)) ?_;rintro h' ⟨G3,rfl,hg3,hv3⟩;refine(Hc x.base l.limit [x] _ G3 (hv3.le (.refl _) fun _ _ h=>BE.le hg3 h) hxi hi _ _).mono ?_;rw[hof];rintro r h' ⟨G4,rfl,hg4,A5,c5,rfl,hs5⟩
 have hg14:=hg1.trans (hg3.trans hg4);have hse2:SE G4 ⟨x.base,eu x⟩ [.int .i64 x.base,.slice A5 (eu x).length c5]:=⟨A5,c5,rfl,hs5,hxi⟩;have hse2:SE G4 ⟨x.base,eu x⟩ [.int .i64 (⟨x.base,eu x⟩:Sg).base,.slice A5 (⟨x.base,eu x⟩:Sg).bytes.length c5]:=hse2;generalize (⟨x.base,eu x⟩:Sg)=s' at *;refine sI ?_;intros;refine gR 77 78 c69r17.eq_1 ?_;have hz0:decide ((0:Int)≠0)=false:=by decide
 refine sJ @hz0 ?_;intros;refine gC ?_;intros;refine gN ?_;have hsl1:SlV G4 (SE G4) 2 (.slice A l.segs.length c) l.segs:=SlSE.le hg14 ⟨A,c,rfl,hc,hmx,hA⟩;have hcl:=nX l.segs _ G4 hsl1 (by omega);have hs5:SB G4 (.slice A5 s'.bytes.length c5) s'.bytes:=hs5;intros;refine dT ?_;refine zK _ (.cons_cons _ (.cons _ KJ)) (by decide) ?_;refine sJ c69r19.eq_1 ?_;refine⟨?_,?_⟩
 ·refine(jd hcl _ _).mono ?_;rintro r h' ⟨G8,L',rfl,hg3,A4,c4,ys,rfl,-,hys,rfl⟩;refine sI ?_;refine⟨ef hg3 (.cons _ (.cons_cons _ (.cons _ KJ))),?_⟩;intro b9 hb9;refine⟨ef hg3 (.cons _ (.cons _ (.cons_cons _ (.cons _ KJ)))),?_⟩;refine sI ?_;refine xj (L1:=[]) (L2:=[_,_,_,_]) (E:=SE G4) (x:=s') rfl hse2 rfl (by simp[Value.oneCell']) hys (by omega) (by omega) fun A' c' zc' hzc'=>?_
  dsimp only;generalize l.segs++[s']=ZS at *;refine sI ?_;refine⟨ef hg3 (.cons _ (.cons _ (.cons_cons _ (.cons _ KJ)))),?_⟩;refine fK (mA _ _ _ _ _ _ _ _ _ _ _) ?_;refine⟨ef hg3 (.cons _ (.cons _ (.cons_cons _ (.cons _ KJ)))),?_⟩;refine sI ?_;refine⟨ef hg3 (.cons _ (.cons _ (.cons_cons _ (.cons _ KJ)))),?_⟩;refine sI ?_;intros;refine dT ?_;refine eI (eh [_] _ (by decide) hzc') ?_
  rintro h' ⟨G9,rfl,hg9,hv9⟩;intros;refine rW ?_;exact⟨_,rfl,A',c',rfl,hv9.le (.refl _) fun _ _ h=>SE.le (hg3.trans hg9) h,hi,hj⟩
 ·intro b9 hb9;refine⟨ef KO (.cons _ (.cons_cons _ (.cons _ KJ))),?_⟩;refine(jd hcl _ _).mono ?_;rintro r h' ⟨G8,L',rfl,hg3,A4,c4,ys,rfl,-,hys,rfl⟩;refine sI ?_;refine⟨ef hg3 (.cons _ (.cons _ (.cons_cons _ (.cons _ KJ)))),?_⟩;refine sI ?_;refine Jw (L2:=[_,_,_,_]) (E:=SE G4) (x:=s') rfl hse2 rfl (by simp[Value.oneCell']) hys (by omega) (by omega) fun A' c' zc' hzc'=>?_
  dsimp only;generalize l.segs++[s']=ZS at *;refine sI ?_;refine⟨ef hg3 (.cons _ (.cons _ (.cons_cons _ (.cons _ KJ)))),?_⟩;refine fK (mA _ _ _ _ _ _ _ _ _ _ _) ?_;refine⟨ef hg3 (.cons _ (.cons _ (.cons_cons _ (.cons _ KJ)))),?_⟩;refine sI ?_;refine⟨ef hg3 (.cons _ (.cons _ (.cons_cons _ (.cons _ KJ)))),?_⟩;refine sI ?_;intros;refine dT ?_;refine eI (eh [] _ (by decide) hzc') ?_
  rintro h' ⟨G9,rfl,hg9,hv9⟩;intros;refine rW ?_;exact⟨_,rfl,A',c',rfl,hv9.le (.refl _) fun _ _ h=>SE.le (hg3.trans hg9) h,hi,hj⟩
end Go.Proofs.YtpmofpekcbghnaaGreat

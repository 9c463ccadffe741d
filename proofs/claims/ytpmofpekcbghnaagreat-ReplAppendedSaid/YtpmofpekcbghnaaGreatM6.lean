/- Parts of a proof, 32 texts in one file. No condition. -/
import Derived.Test.YtpmofpekcbghnaaGreatRows
import Derived.WalkKit
import Derived.ProofKit
import Derived.OpenShut
import Derived.ShutString
import Derived.ChangeOld
import Derived.ChangeSame
import Derived.Below
import Derived.Test.YtpmofpekcbghnaaGreatM1
import Derived.Test.YtpmofpekcbghnaaGreatM2
import Derived.Test.YtpmofpekcbghnaaGreatM3
import Derived.Test.YtpmofpekcbghnaaGreatM4
import Derived.Test.YtpmofpekcbghnaaGreatM5
set_option linter.unusedSimpArgs false
set_option linter.unusedVariables false
namespace Go.Proofs.YtpmofpekcbghnaaGreat
open Go Go.Kx Go.ChangeShapes Go.WideShapes Go.ChangeAt Go.RowKit
theorem own:ownKnob Tryz.prog.godebug=none:=by kernel_rfl
theorem laidOut:laidOutB Tryz.prog=true:=by kernel_rfl
theorem opens_rec(W:World):Opens Tryz.prog W 103 RR:=fun H enc fuel cs x hx=>by
 obtain⟨hl,hf⟩:=opens_fields Tryz.underlying103 (by kernel_rfl) (by kernel_rfl) hx
 obtain⟨v0,_,_,c0,t0⟩:=hf 0 _ rfl
 obtain⟨v1,_,_,c1,t1⟩:=hf 1 _ rfl
 obtain⟨v2,_,_,c2,t2⟩:=hf 2 _ rfl
 obtain⟨v3,_,_,c3,t3⟩:=hf 3 _ rfl
 obtain⟨v4,_,_,c4,t4⟩:=hf 4 _ rfl
 obtain⟨n0,e0,w0⟩:=(opens_int Tryz.underlying3).at_ t0
 obtain⟨n1,e1,w1⟩:=(opens_string Tryz.underlying9).at_ t1
 obtain⟨n2,e2,w2⟩:=(opens_string Tryz.underlying9).at_ t2
 obtain⟨n3,e3⟩:=(opens_bool Tryz.underlying4).at_ t3
 obtain⟨n4,e4,w4⟩:=(opens_int Tryz.underlying3).at_ t4
 cases e0;cases e1;cases e2;cases e3;cases e4
 refine⟨⟨n0,n1,n2,n3,n4⟩,?_,⟨wf_i64 w0,wf_i64 w4⟩,w1,w2⟩
 match cs,hl with
 | [_,_,_,_,_],_=>cases c0;cases c1;cases c2;cases c3;cases c4;rfl
theorem opens_recs(W:World):Opens Tryz.prog W 41 (fun(l:List Rec) cs=>∃ A c,cs=[.slice A l.length c]∧l.length≤c∧c≤maxLen∧SlA (allG W) RR 5 A l) :=
 opens_slice Tryz.underlying41 (by kernel_rfl) (opens_rec W)
theorem opens_batch(W:World):Opens Tryz.prog W 43 (BE (allG W)):=fun H enc fuel cs x hx=>by
 obtain⟨hl,hf⟩:=opens_fields Tryz.underlying43 (by kernel_rfl) (by kernel_rfl) hx
 obtain⟨v0,_,_,c0,t0⟩:=hf 0 _ rfl
 obtain⟨v1,_,_,c1,t1⟩:=hf 1 _ rfl
 obtain⟨v2,_,_,c2,t2⟩:=hf 2 _ rfl
 obtain⟨v3,_,_,c3,t3⟩:=hf 3 _ rfl
 obtain⟨v4,_,_,c4,t4⟩:=hf 4 _ rfl
 obtain⟨v5,_,_,c5,t5⟩:=hf 5 _ rfl
 obtain⟨v6,_,_,c6,t6⟩:=hf 6 _ rfl
 obtain⟨v7,_,_,c7,t7⟩:=hf 7 _ rfl
 obtain⟨v8,_,_,c8,t8⟩:=hf 8 _ rfl
 obtain⟨v9,_,_,c9,t9⟩:=hf 9 _ rfl
 obtain⟨n0,e0,w0⟩:=(opens_int Tryz.underlying3).at_ t0
 obtain⟨n1,e1,w1⟩:=(opens_int Tryz.underlying3).at_ t1
 obtain⟨n2,e2,w2⟩:=(opens_int Tryz.underlying3).at_ t2
 obtain⟨n3,e3,w3⟩:=(opens_int Tryz.underlying3).at_ t3
 obtain⟨n4,e4,w4⟩:=(opens_int Tryz.underlying3).at_ t4
 obtain⟨n5,e5,w5⟩:=(opens_int Tryz.underlying3).at_ t5
 obtain⟨n6,e6,w6⟩:=(opens_int Tryz.underlying3).at_ t6
 obtain⟨n7,e7⟩:=(opens_bool Tryz.underlying4).at_ t7
 obtain⟨n8,e8,w8⟩:=(opens_int Tryz.underlying3).at_ t8
 obtain⟨n9,A,c,e9,w9⟩:=(opens_recs W).at_ t9
 cases e0;cases e1;cases e2;cases e3;cases e4;cases e5;cases e6;cases e7;cases e8;cases e9
 refine⟨⟨n0,n1,n2,n3,n4,n5,n6,n7,n8,n9⟩,A,c,?_,w9,wf_i64 w0,wf_i64 w1,wf_i64 w2,wf_i64 w3,wf_i64 w4,wf_i64 w5,wf_i64 w6,wf_i64 w8⟩
 match cs,hl with
 | [_,_,_,_,_,_,_,_,_,_],_=>cases c0;cases c1;cases c2;cases c3;cases c4;cases c5;cases c6;cases c7;cases c8;cases c9;rfl
theorem opens_byte(W:World):Opens Tryz.prog W 5 UE:=(opens_int Tryz.underlying5).mono fun n cs ⟨h1,h2⟩=>⟨UInt8.ofNat n.toNat,by rw[UE,← wf_u8 h2];exact h1⟩
theorem opens_bytes(W:World):Opens Tryz.prog W 118 (fun(l:List UInt8) cs=>∃ A c,cs=[.slice A l.length c]∧l.length≤c∧c≤maxLen∧SlA (allG W) UE 1 A l) :=
 opens_slice Tryz.underlying118 (by kernel_rfl) (opens_byte W)
end Go.Proofs.YtpmofpekcbghnaaGreat
namespace Go.Proofs.YtpmofpekcbghnaaGreat
open Go Go.Kx
theorem F210:Fun Tryz.prog 210 11 v210 c210 o210:=Fun.mkA Tryz.func210 Tryz.ntmps210
theorem F196:Fun Tryz.prog 196 44 v196 c196 o196:=Fun.mkA Tryz.func196 Tryz.ntmps196
theorem F226:Fun Tryz.prog 226 25 v226 c226 o226:=Fun.mkA Tryz.func226 Tryz.ntmps226
theorem ofInt64{a:Nat}(ha:a < 18446744073709551616):(BitVec.ofInt 64 (a:Int)).toNat=a:=by
 rw[BitVec.ofInt_natCast,BitVec.toNat_ofNat]
 exact Nat.mod_eq_of_lt ha
theorem wrap64{a:Nat}(ha:a < 18446744073709551616):IntKind.u64.wrap (a:Int)=(a:Int):=by
 rw[IntKind.wrap_u64]
 omega
theorem bin_and64{a b:Nat}(ha:a < 18446744073709551616)(hb:b < 18446744073709551616):binV .and (.int .u64 (a:Int)) (.int .u64 (b:Int))=some (.int .u64 ((a &&& b:Nat):Int)):=by
 simp only[binV]
 rw[if_pos trivial]
 have:(BitVec.ofInt IntKind.u64.bits (a:Int) &&& BitVec.ofInt IntKind.u64.bits (b:Int)).toNat=a &&& b:=by
  show(BitVec.ofInt 64 (a:Int) &&& BitVec.ofInt 64 (b:Int)).toNat=_
  rw[BitVec.toNat_and,ofInt64 ha,ofInt64 hb]
 rw[this,wrap64 (Nat.lt_of_le_of_lt Nat.and_le_left ha)]
theorem bin_or64{a b:Nat}(ha:a < 18446744073709551616)(hb:b < 18446744073709551616):binV .or (.int .u64 (a:Int)) (.int .u64 (b:Int))=some (.int .u64 ((a ||| b:Nat):Int)):=by
 simp only[binV]
 rw[if_pos trivial]
 have:(BitVec.ofInt IntKind.u64.bits (a:Int) ||| BitVec.ofInt IntKind.u64.bits (b:Int)).toNat=a ||| b:=by
  show(BitVec.ofInt 64 (a:Int) ||| BitVec.ofInt 64 (b:Int)).toNat=_
  rw[BitVec.toNat_or,ofInt64 ha,ofInt64 hb]
 rw[this,wrap64]
 exact Nat.or_lt_two_pow (n:=64) ha hb
theorem bin_shl64{a s:Nat}(hs:s≤64)(h:a * 2 ^ s < 18446744073709551616)(k:IntKind):binV .shl (.int .u64 (a:Int)) (.int k (s:Int))=some (.int .u64 ((a * 2 ^ s:Nat):Int)):=by
 simp only[binV]
 rw[if_pos (by omega)]
 have h1:min ((s:Int)).toNat IntKind.u64.bits=s:=by simp[IntKind.bits];omega
 rw[h1]
 have h2:(a:Int) * 2 ^ s=((a * 2 ^ s:Nat):Int):=by push_cast;rfl
 rw[h2,wrap64 h]
theorem or_apart{a b n:Nat}(hb:b < 2 ^ n):a * 2 ^ n ||| b=a * 2 ^ n+b:=by
 rw[Nat.mul_comm]
 exact(Nat.two_pow_add_eq_or_of_lt hb a).symm
theorem and_127(x:UInt8):binV .and (.int .u8 (x.toNat:Int)) (.int .u8 127)=some (.int .u8 ((x.toNat % 128:Nat):Int)):=by
 have key:∀ b:Fin 256,(BitVec.ofInt 8 ((b.val:Nat):Int) &&& BitVec.ofInt 8 127).toNat=b.val % 128:=by decide +kernel
 have h2:=key ⟨x.toNat,x.toNat_lt⟩
 simp only[binV]
 rw[if_pos trivial]
 have h3:(BitVec.ofInt IntKind.u8.bits (x.toNat:Int) &&& BitVec.ofInt IntKind.u8.bits 127).toNat=x.toNat % 128:=h2
 rw[h3,IntKind.wrap_u8]
 congr 2
 omega
theorem cv_u8(x:Nat)(hx:x < 256):IntKind.u64.wrap (x:Int)=(x:Int):=wrap64 (by omega)
theorem slY_v{α:Type}{E:α→List Value→Prop}{G:Nat→Option Obj}{sz:Nat}{P:Program}{d:Nat}{l:List SI}{e:Env}{h:H}{K:Env→H→Prop}{A:Option Addr}{n c:Nat}{xs:List α}{lw u m:Int}(lo hi mx:Nat)(hl:SlV G E sz (.slice A n c) xs)(h1:lw=lo)(h2:u=hi)(h3:m=mx)
  (h4:lo≤hi∧hi≤xs.length∧hi≤mx∧mx≤c) (hk:∀ B,SlV G E sz (.slice B ((xs.take hi).drop lo).length (mx - lo)) ((xs.take hi).drop lo)→kR P l d e K (.slice B ((xs.take hi).drop lo).length (mx - lo)) h):slY P A c (some lw) (some u) (some m) sz d l e h K:=by
 subst h1 h2 h3
 obtain⟨A',c',he,hc,hm,hA⟩:=hl
 cases he
 have hlen:((xs.take hi).drop lo).length=hi - lo:=by simp;omega
 refine⟨by omega,?_⟩
 have:=hk (if ((mx:Nat):Int).toNat=((lo:Nat):Int).toNat then A else A.map (·.add (((lo:Nat):Int).toNat * sz))) ⟨_,_,rfl,by omega,by omega,?_⟩
 ·rw[hlen]at this
  simpa using this
 ·refine hA.cut (by omega) fun hlt=>?_
  rw[if_neg (by simp;omega)]
  simp
theorem SlV.pre{α:Type}{E:α→List Value→Prop}{G:Nat→Option Obj}{sz:Nat}{A:Option Addr}{n c:Nat}{xs:List α}(hi:Nat)(hl:SlV G E sz (.slice A n c) xs)(h:hi≤xs.length):SlV G E sz (.slice A hi c) (xs.take hi):=by
 obtain⟨A',c',he,hc,hm,hA⟩:=hl
 cases he
 have hlen:(xs.take hi).length=hi:=by simp;omega
 refine⟨A,c,by rw[hlen],by omega,hm,?_⟩
 have:=hA.cut (l:=0) (n:=hi) (B:=A) h fun _=>by cases A <;> simp[Addr.add]
 simpa using this
def numB(l:List UInt8):Nat:=l.foldl (fun n x=>n * 256+x.toNat) 0
theorem fold_lt:∀ (l:List UInt8) (n k:Nat),n < 256 ^ k→l.foldl (fun n x=>n * 256+x.toNat) n < 256 ^ (k+l.length)
 | [],n,k,h=>by simpa using h
 | x :: l,n,k,h=>by
  have hx:=x.toNat_lt
  have:=fold_lt l (n * 256+x.toNat) (k+1) (by rw[Nat.pow_succ];omega)
  rw[List.foldl_cons,List.length_cons,show k+(l.length+1)=k+1+l.length by omega]
  exact this
theorem numB_lt(l:List UInt8):numB l < 256 ^ l.length:=by
 have:=fold_lt l 0 0 (by simp)
 simpa [numB]using this
theorem numB_succ{l:List UInt8}{k:Nat}{x:UInt8}(hx:l[k]?=some x):numB (l.take (k+1))=numB (l.take k) * 256+x.toNat:=by
 have h:=List.getElem?_eq_some_iff.1 hx
 rw[List.take_succ_eq_append_getElem h.1,h.2]
 simp[numB]
theorem numB_7{l:List UInt8}(h:l.length≤7):numB l < 72057594037927936:=by
 have:=numB_lt l
 have h2:256 ^ l.length≤256 ^ 7:=Nat.pow_le_pow_right (by decide) h
 omega
def getN(l:List UInt8)(a:Int)(k:Nat):Nat × Int:=if a < 0 then(0,1)else if (l.drop a.toNat).length < k then(0,10)else(numB ((l.drop a.toNat).take k),0)
theorem from_ok(l:List UInt8)(a:Nat)(v:Value)(G:Nat→Option Obj)(hl:SB G v l):FnE Tryz.prog 210 #[v,.int .i64 (a:Int)] G (fun r=>SB G r (l.drop a)):=by
 obtain⟨A,c,rfl,hA⟩:=id hl
 refine F210.fnE (by simp) (go_of ?_)
 unfold c210
 intros;refine gr 0 0 ?_;refine sJ c210r0.eq_1 ?_
 have hmin:min (a:Int) l.length=((min a l.length:Nat):Int):=by omega
 intros;refine gr 5 11 ?_;refine sJ2 c210r1.eq_1 @hmin ?_
 refine slY_v (min a l.length) l.length c hl rfl rfl rfl (by have:=hA.1;omega) fun B hB=>?_
 have he:(l.take l.length).drop (min a l.length)=l.drop a:=by
  rw[List.take_length]
  by_cases h:a≤l.length
  ·rw[Nat.min_eq_left h]
  ·rw[Nat.min_eq_right (by omega),List.drop_length,List.drop_of_length_le (by omega)]
 rw[he]at hB ⊢
 refine sI ?_
 intros;refine rV ?_;simp only[push_cast,Nat.reduceBEq]
 exact hB
theorem getN_neg{l:List UInt8}{a:Int}{k:Nat}(h:a < 0):getN l a k=(0,1):=if_pos h
theorem getN_nat(l:List UInt8)(a k:Nat):getN l (a:Int) k=if (l.drop a).length < k then(0,10)else(numB ((l.drop a).take k),0):=by
 rw[getN,if_neg (by omega)]
 rfl
theorem NGet_ok(l:List UInt8)(a:Int)(k:Nat)(hk:1≤k∧k≤8)(v:Value)(G:Nat→Option Obj)(hl:SB G v l):
  FnS Tryz.prog 196 #[v,.int .i64 a,.int .i64 (k:Int)] G (.tuple #[.int .u64 ((getN l a k).1:Int),.int .i64 (getN l a k).2]):=by
 obtain⟨A,c,rfl,hA⟩:=id hl
 refine F196.fnS (by simp) (go_of ?_)
 unfold c196
 intros;refine gr 0 0 ?_;refine sJ c196r0.eq_1 ?_
 intros;refine gr 12 21 ?_;refine sJ c196r1.eq_1 ?_
 refine gd (fun h1=>absurd (of_decide_eq_true h1) (by omega)) (fun h1=>?_)
 refine sI ?_
 have h2:decide ((8:Int) < (k:Int))=false:=decide_eq_false (by omega)
 refine sJ @h2 ?_
 intros;refine gc ?_;refine sI ?_
 refine gb (fun h3=>?_) (fun h3=>?_)
 ·have h3:=of_decide_eq_true h3
  intros;refine gr 0 0 ?_;refine sJ c196r2.eq_1 ?_
  intros;refine rV ?_;simp only[push_cast,Nat.reduceBEq]
  rw[getN_neg h3]
  rfl
 have h3:=of_decide_eq_false h3
 obtain⟨a,rfl⟩:∃ n:Nat,a=n:=⟨a.toNat,by omega⟩
 rw[getN_nat]
 intros;refine gN ?_
 intros;refine gr 22 25 ?_;refine sJ c196r3.eq_1 ?_
 refine(from_ok l a _ G hl _ _).mono ?_
 rintro r h' ⟨hr,rfl⟩
 generalize l.drop a=m at hr ⊢
 obtain⟨B,d,rfl,hB⟩:=id hr
 refine sI ?_
 intros;refine gr 25 28 ?_;refine sJ c196r4.eq_1 ?_
 intros;refine gc ?_;refine sI ?_
 refine gb (fun h4=>?_) (fun h4=>?_)
 ·have h4:=of_decide_eq_true h4
  intros;refine gr 0 0 ?_;refine sJ c196r5.eq_1 ?_
  intros;refine rV ?_;simp only[push_cast,Nat.reduceBEq]
  rw[if_pos (by omega)]
  rfl
 have h4:=of_decide_eq_false h4
 rw[if_neg (by omega)]
 intros;refine gN ?_
 intros;refine gr 0 0 ?_;refine sJ c196r6.eq_1 ?_
 intros;refine gr 29 31 ?_;refine sJ c196r7.eq_1 ?_
 refine⟨by have:=hB.1;omega,?_⟩
 (intros;try refine go_st ?_)
 have hC:=SlV.pre k hr (by omega)
 generalize hm:m.take k=x at hC ⊢
 have hxl:x.length=k:=by rw[← hm];simp;omega
 obtain⟨B',d',he,hd',hm',hC⟩:=hC
 cases he
 refine go_loop (fun e h=>∃ (i:Nat),i≤x.length∧e 33=.int .i64 i∧e 32=.int .i64 x.length∧e 31=.slice B x.length d∧e 9=.int .u64 (numB (x.take i):Int)∧h=⟨G,[],[]⟩) (fun e h=>x.length - iv (e 33)) ?_ ?_
 ·exact⟨0,Nat.zero_le _,eE,eE,eE,by refine sI ?_;rfl,rfl⟩
 ·rintro e h ⟨i,hi,e33,e32,e31,e9,rfl⟩
  refine go_keep [9,31,32,33] ?_
  refine sJ4 @e9 @e31 @e32 @e33 ?_
  intros;refine gr 0 0 ?_;refine sJ c196r8.eq_1 ?_
  intros;refine gc ?_;refine sI ?_
  refine gb (fun ht=>?_) (fun ht=>?_)
  ·have ht:i < x.length:=by simpa using ht
   obtain⟨y,hy⟩:∃ y,x[i]?=some y:=⟨x[i],List.getElem?_eq_getElem (by omega)⟩
   have hw:=inc_i i x.length ht (by unfold maxLen;omega)
   have h7:numB (x.take i) < 72057594037927936:=numB_7 (by simp;omega)
   have hyl:=y.toNat_lt
   have hs:binV .shl (.int .u64 (numB (x.take i):Int)) (.int .u64 8)=some (.int .u64 ((numB (x.take i) * 2 ^ 8:Nat):Int)):=bin_shl64 (s:=8) (by omega) (by omega) .u64
   have ho:binV .or (.int .u64 ((numB (x.take i) * 2 ^ 8:Nat):Int)) (.int .u64 (y.toNat:Int))=some (.int .u64 (numB (x.take (i+1)):Int)):=by
    rw[bin_or64 (by omega) (by omega),or_apart (n:=8) (by omega),numB_succ hy]
   generalize hq:numB (x.take i) * 2 ^ 8=q at hs ho
   intros;refine gN ?_
   intros;refine gr 35 37 ?_;refine sJ c196r9.eq_1 ?_
   refine hC.x_l1 hy rfl rfl ?_
   rintro a1 ha1 u hu
   cases hu
   refine sI ?_
   intros;refine gr 37 42 ?_;(refine sJ4 c196r10.eq_1 @hs (cv_u8 y.toNat hyl) @ho ?_)
   intros;refine gr 42 43 ?_;refine sJ2 c196r11.eq_1 @hw ?_
   (intros;try refine go_st ?_)
   refine go_l ⟨⟨i+1,by omega,eE,eE,eE,eE,rfl⟩,?_⟩
   refine sI ?_
   omega
  ·have ht:i=x.length:=by simp at ht;omega
   subst ht
   refine go_exit ?_
   refine sI ?_
   intros;refine gr 43 44 ?_;refine sJ c196r12.eq_1 ?_
   intros;refine rV ?_;simp only[push_cast,Nat.reduceBEq]
   rw[List.take_of_length_le (by omega)]
def getF(l:List UInt8)(a:Nat):Bool × Int × Int:=match l[a]? with
 | none=>(false,0,10)
 | some x=>if 1 < x.toNat then(false,0,11)else(decide (x.toNat=1),a+1,0)
theorem flag_ok(l:List UInt8)(a:Nat)(v:Value)(G:Nat→Option Obj)(hl:SB G v l):
  FnS Tryz.prog 226 #[v,.int .i64 (a:Int)] G (.tuple #[.bool (getF l a).1,.int .i64 (getF l a).2.1,.int .i64 (getF l a).2.2]):=by
 obtain⟨A,c,rfl,hc,hm,hA⟩:=id hl
 refine F226.fnS (by simp) (go_of ?_)
 unfold c226
 intros;refine gr 0 0 ?_;refine sJ c226r0.eq_1 ?_
 intros;refine gr 8 12 ?_;refine sJ c226r1.eq_1 ?_
 intros;refine gc ?_;refine sI ?_
 refine gb (fun h1=>?_) (fun h1=>?_)
 ·have h1:=of_decide_eq_true h1
  intros;refine gr 0 0 ?_;refine sJ c226r2.eq_1 ?_
  intros;refine rV ?_;simp only[push_cast,Nat.reduceBEq]
  rw[getF,List.getElem?_eq_none (by omega)]
 have h1:=of_decide_eq_false h1
 obtain⟨y,hy⟩:∃ y,l[a]?=some y:=⟨l[a]'(by omega),List.getElem?_eq_getElem _⟩
 rw[getF,hy]
 dsimp only
 intros;refine gr 13 18 ?_;refine sJ c226r3.eq_1 ?_
 refine hA.x_l1 hy rfl rfl ?_
 rintro a1 ha1 u hu
 cases hu
 refine sI ?_
 intros;refine gc ?_;refine sI ?_
 refine gb (fun h2=>?_) (fun h2=>?_)
 ·have h2:=of_decide_eq_true h2
  intros;refine gr 0 0 ?_;refine sJ c226r4.eq_1 ?_
  intros;refine rV ?_;simp only[push_cast,Nat.reduceBEq]
  rw[if_pos (by omega)]
 have h2:=of_decide_eq_false h2
 rw[if_neg (by omega)]
 have hw:=inc_i a l.length (by omega) (by omega)
 intros;refine gN ?_
 intros;refine gr 18 25 ?_;refine sJ2 c226r5.eq_1 @hw ?_
 refine hA.x_l1 hy rfl rfl ?_
 rintro a1 ha1 u hu
 cases hu
 refine sJ @hw ?_
 intros;refine rV ?_;simp only[push_cast,Nat.reduceBEq]
 congr 3
 simp
 omega
theorem F213:Fun Tryz.prog 213 58 v213 c213 o213:=Fun.mkA Tryz.func213 Tryz.ntmps213
theorem F222:Fun Tryz.prog 222 45 v222 c222 o222:=Fun.mkA Tryz.func222 Tryz.ntmps222
def gvL:Nat→Nat→List UInt8→Int × Nat × Nat
 | _,_,[]=>(10,0,0)
 | i,z,x :: xs=>if (i=9∧1 < x.toNat)∨(0 < i∧x.toNat=0)then(11,0,0)else if x.toNat < 128 then(0,z+128 ^ i * (x.toNat % 128),i+1)else gvL (i+1) (z+128 ^ i * (x.toNat % 128)) xs
def zag(z:Nat):Int:=if z % 2=0 then((z / 2:Nat):Int)else -((z / 2:Nat):Int) - 1
def getV(l:List UInt8)(a:Int):Int × Int × Int:=if a < 0 then(0,0,1)else if (gvL 0 0 (l.drop a.toNat)).1=0 then(zag (gvL 0 0 (l.drop a.toNat)).2.1,a+(gvL 0 0 (l.drop a.toNat)).2.2,0)else(0,0,(gvL 0 0 (l.drop a.toNat)).1)
theorem gvL_nil(i z:Nat):gvL i z []=(10,0,0):=rfl
theorem gvL_bad{i z:Nat}{x:UInt8}{xs:List UInt8}(h:(i=9∧1 < x.toNat)∨(0 < i∧x.toNat=0)):gvL i z (x :: xs)=(11,0,0):=by rw[gvL,if_pos h]
theorem gvL_end{i z:Nat}{x:UInt8}{xs:List UInt8}(h:¬ ((i=9∧1 < x.toNat)∨(0 < i∧x.toNat=0)))(h2:x.toNat < 128):gvL i z (x :: xs)=(0,z+128 ^ i * (x.toNat % 128),i+1):=by rw[gvL,if_neg h,if_pos h2]
theorem gvL_more{i z:Nat}{x:UInt8}{xs:List UInt8}(h:¬ ((i=9∧1 < x.toNat)∨(0 < i∧x.toNat=0)))(h2:¬ x.toNat < 128):gvL i z (x :: xs)=gvL (i+1) (z+128 ^ i * (x.toNat % 128)) xs:=by rw[gvL,if_neg h,if_neg h2]
theorem pow_8{i:Nat}(h:i≤8):128 ^ i≤72057594037927936:=by
 have:128 ^ i≤128 ^ 8:=Nat.pow_le_pow_right (by decide) h
 omega
theorem step_lt{i z x:Nat}(hi:i≤9)(hz:z < 128 ^ i)(hx:¬ (i=9∧1 < x))(hx2:x < 256):128 ^ i * (x % 128) < 18446744073709551616∧z+128 ^ i * (x % 128) < 18446744073709551616∧(i≤8→z+128 ^ i * (x % 128) < 128 ^ (i+1)):=by
 have h128:x % 128≤127:=by omega
 have h1:128 ^ i * (x % 128)≤128 ^ i * 127:=Nat.mul_le_mul_left _ h128
 have h3:128 ^ (i+1)=128 ^ i * 128:=Nat.pow_succ ..
 by_cases h9:i=9
 ·subst h9
  have:x≤1:=by omega
  have h4:128 ^ 9 * (x % 128)≤128 ^ 9 * 1:=Nat.mul_le_mul_left _ (by omega)
  omega
 ·have:=pow_8 (show i≤8 by omega)
  omega
theorem gvL_lt:∀ (m:List UInt8) (i z:Nat),i≤9→z < 128 ^ i→(gvL i z m).1=0→(gvL i z m).2.1 < 18446744073709551616∧i < (gvL i z m).2.2∧(gvL i z m).2.2≤i+m.length
 | [],i,z,_,_,h=>by simp[gvL]at h
 | x :: xs,i,z,hi,hz,h=>by
  by_cases h1:(i=9∧1 < x.toNat)∨(0 < i∧x.toNat=0)
  ·rw[gvL_bad h1]at h;cases h
  ·obtain⟨s1,s2,s3⟩:=step_lt hi hz (fun h=>h1 (.inl h)) x.toNat_lt
   by_cases h2:x.toNat < 128
   ·rw[gvL_end h1 h2]
    exact⟨s2,by simp,by simp⟩
   ·have hi8:i≤8:=by omega
    rw[gvL_more h1 h2]at h ⊢
    obtain⟨a,b,c⟩:=gvL_lt xs (i+1) _ (by omega) (s3 hi8) h
    refine⟨a,by omega,by simp;omega⟩
theorem zag_i{z:Nat}(h:z < 18446744073709551616):I64 (zag z):=by
 unfold zag I64
 split <;> omega
theorem xor_zag{z:Nat}(hz:z < 18446744073709551616):binV .xor (.int .i64 ((z / 2:Nat):Int)) (.int .i64 (IntKind.i64.wrap (0 - ((z % 2:Nat):Int))))=some (.int .i64 (zag z)):=by
 have key:IntKind.i64.wrap (((BitVec.ofInt 64 ((z / 2:Nat):Int) ^^^ BitVec.ofInt 64 (IntKind.i64.wrap (0 - ((z % 2:Nat):Int)))).toNat:Nat):Int)=zag z:=by
  by_cases h0:z % 2=0
  ·have e2:IntKind.i64.wrap (0 - ((z % 2:Nat):Int))=0:=by rw[h0];rfl
   rw[e2]
   have:BitVec.ofInt 64 0=0#64:=rfl
   rw[this,BitVec.xor_zero,ofInt64 (by omega),zag,if_pos h0,w64_id]
   omega
  ·have e2:IntKind.i64.wrap (0 - ((z % 2:Nat):Int))=-1:=by rw[show z % 2=1 by omega];rfl
   rw[e2]
   have:BitVec.ofInt 64 (-1)=BitVec.allOnes 64:=by decide
   rw[this,BitVec.xor_allOnes,BitVec.toNat_not,ofInt64 (by omega),zag,if_neg h0,IntKind.wrap_i64]
   omega
 simp only[binV]
 rw[if_pos trivial]
 exact congrArg (fun n=>some (Value.int .i64 n)) key
theorem bin_shr1_64(z:Nat):binV .shr (.int .u64 (z:Int)) (.int .u64 1)=some (.int .u64 ((z / 2:Nat):Int)):=by
 simp[binV,IntKind.bits]
 rw[Int.fdiv_eq_ediv_of_nonneg _ (by omega)]
theorem bin_and1_64{z:Nat}(hz:z < 18446744073709551616):binV .and (.int .u64 (z:Int)) (.int .u64 1)=some (.int .u64 ((z % 2:Nat):Int)):=by
 have:=bin_and64 (b:=1) hz (by omega)
 rw[Nat.and_one_is_mod]at this
 exact this
theorem GetVar_ok(l:List UInt8)(a:Int)(v:Value)(G:Nat→Option Obj)(hl:SB G v l):
  FnS Tryz.prog 213 #[v,.int .i64 a] G (.tuple #[.int .i64 (getV l a).1,.int .i64 (getV l a).2.1,.int .i64 (getV l a).2.2]):=by
 obtain⟨A,c,rfl,hc,hm,hA⟩:=id hl
 unfold maxLen at hm
 refine F213.fnS (by simp) (go_of ?_)
 unfold c213
 intros;refine gr 0 0 ?_;refine sJ c213r0.eq_1 ?_
 intros;refine gr 10 11 ?_;refine sJ c213r1.eq_1 ?_
 intros;refine gc ?_;refine sI ?_
 refine gb (fun h1=>?_) (fun h1=>?_)
 ·have h1:=of_decide_eq_true h1
  intros;refine gr 0 0 ?_;refine sJ c213r2.eq_1 ?_
  intros;refine rV ?_;simp only[push_cast,Nat.reduceBEq]
  rw[getV,if_pos h1]
 have h1:=of_decide_eq_false h1
 obtain⟨a,rfl⟩:∃ n:Nat,a=n:=⟨a.toNat,by omega⟩
 have hgv:getV l (a:Int)=if (gvL 0 0 (l.drop a)).1=0 then(zag (gvL 0 0 (l.drop a)).2.1,(a:Int)+(gvL 0 0 (l.drop a)).2.2,0)else(0,0,(gvL 0 0 (l.drop a)).1):=by
  rw[getV,if_neg h1]
  rfl
 have hdl:a+(l.drop a).length≤l.length∨l.drop a=[]:=by
  by_cases h:a≤l.length
  ·left;simp;omega
  ·right;exact List.drop_of_length_le (by omega)
 rw[hgv]
 intros;refine gN ?_
 intros;refine gr 0 0 ?_;refine sJ c213r3.eq_1 ?_
 intros;refine gr 12 14 ?_;refine sJ c213r4.eq_1 ?_
 refine(from_ok l a _ G hl _ _).mono ?_
 rintro r h' ⟨hr,rfl⟩
 generalize hm0:l.drop a=m at hr hdl ⊢
 obtain⟨B,d,rfl,hd,hdm,hB⟩:=hr
 refine sI ?_
 (intros;try refine go_st ?_)
 refine go_loop (fun e h=>∃ (i z:Nat),(i≤m.length∧i≤9∧z < 128 ^ i∧gvL 0 0 m=gvL i z (m.drop i))∧e 16=.int .i64 i∧e 15=.int .i64 m.length∧e 14=.slice B m.length d∧e 7=.int .u64 (z:Int)∧e 1=.int .i64 (a:Int)∧h=⟨G,[],[]⟩) (fun e h=>m.length - iv (e 16)) ?_ ?_
 ·exact⟨0,0,⟨Nat.zero_le _,by omega,by simp,by simp⟩,eE,eE,eE,eE,eE,rfl⟩
 ·rintro e h ⟨i,z,⟨hi,hi9,hz,heq⟩,e16,e15,e14,e7,e1,rfl⟩
  refine go_keep [1,7,14,15,16] ?_
  refine sJ5 @e1 @e7 @e14 @e15 @e16 ?_
  intros;refine gr 0 0 ?_;refine sJ c213r5.eq_1 ?_
  intros;refine gc ?_;refine sI ?_
  refine gb (fun ht=>?_) (fun ht=>?_)
  ·have ht:i < m.length:=by simpa using ht
   have hal:a+m.length≤l.length:=by
    rcases hdl with h | h
    ·exact h
    ·rw[h]at ht;simp at ht
   obtain⟨y,hy⟩:∃ y,m[i]?=some y:=⟨m[i],List.getElem?_eq_getElem (by omega)⟩
   have hy0:=List.getElem?_eq_some_iff.1 hy
   rw[List.drop_eq_getElem_cons ht,hy0.2]at heq
   have hw:=inc_i i m.length ht (by omega)
   have hyl:=y.toNat_lt
   intros;refine gN ?_
   intros;refine gr 18 21 ?_;refine sJ c213r6.eq_1 ?_
   refine hB.x_l1 hy rfl rfl ?_
   rintro a1 ha1 u hu
   cases hu
   refine sI ?_
   intros;try refine go_seq ?_
   refine go_cut (fun e h=>¬ ((i=9∧1 < y.toNat)∨(0 < i∧y.toNat=0))∧e 16=.int .i64 i∧e 15=.int .i64 m.length∧e 14=.slice B m.length d∧e 7=.int .u64 (z:Int)∧e 1=.int .i64 (a:Int)∧e 8=.int .i64 i∧e 9=.int .u8 (y.toNat:Int)∧h=⟨G,[],[]⟩) ?_ ?_
   ·have hbad:((i=9∧1 < y.toNat)∨(0 < i∧y.toNat=0))→∀ (fr:List Td) (e:Env),go none Tryz.prog 58 v213.1 v213.2 (retQ o213 fun v h=>v=.tuple #[.int .i64 (if (gvL 0 0 m).1=0 then(zag (gvL 0 0 m).2.1,(a:Int)+(gvL 0 0 m).2.2,0)else(0,0,(gvL 0 0 m).1)).1,.int .i64 (if (gvL 0 0 m).1=0 then(zag (gvL 0 0 m).2.1,(a:Int)+(gvL 0 0 m).2.2,0)else(0,0,(gvL 0 0 m).1)).2.1,.int .i64 (if (gvL 0 0 m).1=0 then(zag (gvL 0 0 m).2.1,(a:Int)+(gvL 0 0 m).2.2,0)else(0,0,(gvL 0 0 m).1)).2.2]) (Td.s ((SC.reg false c213r8).seq .ret) :: fr) e ⟨G,[],[]⟩:=fun hx fr e=>by
     intros;refine gr 0 0 ?_;refine sJ c213r8.eq_1 ?_
     intros;refine rV ?_;simp only[push_cast,Nat.reduceBEq]
     rw[heq,gvL_bad hx]
     rfl
    intros;refine gr 21 34 ?_;refine sJ c213r7.eq_1 ?_
    refine gd (fun k1=>?_) (fun k1=>?_)
    ·have k1:i=9:=by have:=of_decide_eq_true k1;omega
     have hp:decide ((0:Int) < (i:Int))=true:=decide_eq_true (by omega)
     refine sI ?_
     refine gd (fun k2=>?_) (fun k2=>?_)
     ·have k2:=of_decide_eq_true k2
      refine sI ?_
      intros;refine gc ?_;refine sI ?_
      exact hbad (.inl ⟨k1,by omega⟩) _ _
     ·have k2:=of_decide_eq_false k2
      refine sJ @hp ?_
      intros;refine gc ?_;refine sI ?_
      refine gb (fun k3=>?_) (fun k3=>?_)
      ·exact hbad (.inr ⟨by omega,by have:=of_decide_eq_true k3;omega⟩) _ _
      ·have k3:=of_decide_eq_false k3
       (intros;try refine go_st ?_)
       exact go_l ⟨by omega,eE,eE,eE,eE,eE,eE,eE,rfl⟩
    ·have k1:¬ i=9:=by have:=of_decide_eq_false k1;omega
     refine sI ?_
     refine gd (fun k2=>?_) (fun k2=>?_)
     ·have k2:=of_decide_eq_true k2
      refine sI ?_
      intros;refine gc ?_;refine sI ?_
      refine gb (fun k3=>?_) (fun k3=>?_)
      ·exact hbad (.inr ⟨by omega,by have:=of_decide_eq_true k3;omega⟩) _ _
      ·have k3:=of_decide_eq_false k3
       (intros;try refine go_st ?_)
       exact go_l ⟨by omega,eE,eE,eE,eE,eE,eE,eE,rfl⟩
     ·have k2:=of_decide_eq_false k2
      refine sI ?_
      intros;refine gc ?_;refine sI ?_
      (intros;try refine go_st ?_)
      exact go_l ⟨by omega,eE,eE,eE,eE,eE,eE,eE,rfl⟩
   rintro e h ⟨hgood,e16,e15,e14,e7,e1,e8,e9,rfl⟩
   refine go_keep [1,7,8,9,14,15,16] ?_
   refine sJ7 @e1 @e7 @e8 @e9 @e14 @e15 @e16 ?_
   obtain⟨s1,s2,s3⟩:=step_lt hi9 hz (fun h=>hgood (.inl h)) hyl
   have hp7:128 ^ i=2 ^ (7 * i):=by rw[Nat.pow_mul]
   have w7:IntKind.i64.wrap (7 * (i:Int))=((7 * i:Nat):Int):=by rw[w64_id] <;> omega
   have hs:binV .shl (.int .u64 ((y.toNat % 128:Nat):Int)) (.int .i64 ((7 * i:Nat):Int))=some (.int .u64 ((y.toNat % 128 * 2 ^ (7 * i):Nat):Int)):=bin_shl64 (by omega) (by rw[← hp7,Nat.mul_comm];exact s1) .i64
   have ho:binV .or (.int .u64 (z:Int)) (.int .u64 ((y.toNat % 128 * 2 ^ (7 * i):Nat):Int))=some (.int .u64 ((z+128 ^ i * (y.toNat % 128):Nat):Int)):=by
    rw[bin_or64 (by omega) (by rw[← hp7,Nat.mul_comm];exact s1),Nat.or_comm,or_apart (by rw[← hp7];exact hz),← hp7,Nat.mul_comm,Nat.add_comm]
   have hcu:IntKind.u64.wrap ((y.toNat % 128:Nat):Int)=((y.toNat % 128:Nat):Int):=wrap64 (by omega)
   have hx127:=and_127 y
   generalize hq:y.toNat % 128=q at hs ho hcu hx127
   generalize hz':z+128 ^ i * q=z' at ho
   generalize hqq:q * 2 ^ (7 * i)=qq at hs ho
   generalize h7i:7 * i=j7 at hs w7
   have hz2:z' < 18446744073709551616:=by rw[← hz',← hq];exact s2
   intros;refine gr 35 43 ?_;refine sJ6 c213r9.eq_1 @hx127 @hcu @w7 @hs @ho ?_
   intros;refine gr 43 44 ?_;refine sJ c213r10.eq_1 ?_
   intros;refine gc ?_;refine sI ?_
   refine gb (fun k3=>?_) (fun k3=>?_)
   ·have k3:=of_decide_eq_true k3
    have w8:IntKind.i64.wrap ((a:Int)+i)=((a+i:Nat):Int):=by rw[w64_id] <;> omega
    have w9:IntKind.i64.wrap (((a+i:Nat):Int)+1)=((a+i+1:Nat):Int):=by rw[w64_id] <;> omega
    have hx:=xor_zag hz2
    have hcz:IntKind.i64.wrap ((z' / 2:Nat):Int)=((z' / 2:Nat):Int):=by rw[w64_id] <;> omega
    have hcm:IntKind.i64.wrap ((z' % 2:Nat):Int)=((z' % 2:Nat):Int):=by rw[w64_id] <;> omega
    have ha1:=bin_and1_64 hz2
    have hs1:=bin_shr1_64 z'
    generalize hv1:z' / 2=v1 at hx hcz hs1
    generalize hv2:z' % 2=v2 at hx hcm ha1
    generalize hv3:a+i=v3 at w8 w9
    generalize hv4:v3+1=v4 at w9
    intros;refine gr 45 57 ?_;(try simp -implicitDefEqProofs only[kR_e,kQ_e,push_cast,Nat.reduceBEq,Nat.reduceAdd,Nat.reduceSub,Nat.reduceMul,Nat.reduceLT,Nat.reduceLeDiff,Nat.reduceEqDiff,reduceIte,Bool.not_true,Bool.not_false,true_and,and_true,Option.map_some,Option.bind_some,Int.toNat_natCast,c213r11,hs1,ha1,hcz,hcm,hx,w8,w9])
    intros;refine rV ?_;simp only[push_cast,Nat.reduceBEq]
    have hend:=gvL_end (z:=z) (xs:=m.drop (i+1)) hgood (by omega)
    rw[heq,hend]
    simp only[if_true]
    rw[hq,hz',← hv4,← hv3]
    simp[Int.add_assoc]
   ·have k3:=of_decide_eq_false k3
    have hi8:i≤8:=by omega
    rw[gvL_more hgood (by omega),hq,hz']at heq
    intros;refine gN ?_
    intros;refine gr 57 58 ?_;refine sJ2 c213r12.eq_1 @hw ?_
    (intros;try refine go_st ?_)
    refine go_l ⟨⟨i+1,z',⟨by omega,by omega,by rw[← hz',← hq];exact s3 hi8,heq⟩,eE,eE,eE,eE,eE,rfl⟩,?_⟩
    refine sI ?_
    omega
  ·have ht:i=m.length:=by simp at ht;omega
   rw[ht,List.drop_length,gvL_nil]at heq
   refine go_exit ?_
   refine sI ?_
   intros;refine gr 0 0 ?_;refine sJ c213r13.eq_1 ?_
   intros;refine rV ?_;simp only[push_cast,Nat.reduceBEq]
   rw[heq]
   rfl
theorem F223:Fun Tryz.prog 223 14 v223 c223 o223:=Fun.mkA Tryz.func223 Tryz.ntmps223
theorem F221:Fun Tryz.prog 221 13 v221 c221 o221:=Fun.mkA Tryz.func221 Tryz.ntmps221
theorem getV_ok{l:List UInt8}{a:Int}(h:(getV l a).2.2=0):∃ k:Nat,0≤a∧(getV l a).2.1=((a.toNat+k:Nat):Int)∧0 < k∧a.toNat+k≤l.length∧I64 (getV l a).1:=by
 unfold getV at h ⊢
 split at h
 ·cases h
 rename_i h0
 rw[if_neg h0]
 split at h
 ·rename_i h1
  rw[if_pos h1]
  obtain⟨a1,a2,a3⟩:=gvL_lt _ 0 0 (by omega) (by simp) h1
  refine⟨_,by omega,?_,a2,?_,zag_i a1⟩
  ·dsimp only
   omega
  ·have:(gvL 0 0 (l.drop a.toNat)).2.2≤l.length - a.toNat:=by simpa using a3
   omega
 ·rename_i h1
  exact absurd h h1
def getT(l:List UInt8)(a most:Int):ByteArray × Int × Int :=
 if (getV l a).2.2=0 then
  if (getV l a).1 < 0 then(⟨#[]⟩,0,11)else if most < (getV l a).1 then(⟨#[]⟩,0,2)else if (l.length:Int) - (getV l a).2.1 < (getV l a).1 then(⟨#[]⟩,0,10)
  else(⟨((l.take ((getV l a).2.1.toNat+(getV l a).1.toNat)).drop (getV l a).2.1.toNat).toArray⟩,(getV l a).2.1+(getV l a).1,0)
 else(⟨#[]⟩,0,(getV l a).2.2)
theorem GetText_ok(l:List UInt8)(a most:Int)(v:Value)(G:Nat→Option Obj)(hl:SB G v l):
  FnS Tryz.prog 222 #[v,.int .i64 a,.int .i64 most] G (.tuple #[.string (getT l a most).1,.int .i64 (getT l a most).2.1,.int .i64 (getT l a most).2.2]):=by
 obtain⟨A,c,rfl,hc,hm,hA⟩:=id hl
 unfold maxLen at hm
 refine F222.fnS (by simp) (go_of ?_)
 unfold c222 getT
 have hk:=@getV_ok l a
 intros;refine gr 0 0 ?_;refine sJ c222r0.eq_1 ?_
 intros;refine gr 10 17 ?_;refine sJ c222r1.eq_1 ?_
 refine(GetVar_ok l a _ G hl _ _).mono ?_;rintro _ _ ⟨rfl,rfl⟩;refine sI ?_
 generalize getV l a=q at hk ⊢
 obtain⟨n,next,er⟩:=q
 dsimp only at hk ⊢
 intros;refine gr 18 20 ?_;refine sJ c222r2.eq_1 ?_
 intros;refine gc ?_;refine sI ?_
 refine gb (fun h1=>?_) (fun h1=>?_)
 ·have h1:=of_decide_eq_true h1
  intros;refine gr 20 21 ?_;refine sJ c222r3.eq_1 ?_
  intros;refine rV ?_;simp only[push_cast,Nat.reduceBEq]
  rw[if_neg h1]
 have h1:er=0:=by simpa using h1
 obtain⟨k,ha,hnx,hk0,hkl,hn⟩:=hk h1
 generalize hb:a.toNat+k=b at hnx hkl
 subst hnx
 rw[if_pos h1]
 intros;refine gr 22 24 ?_;refine sJ c222r4.eq_1 ?_
 intros;refine gc ?_;refine sI ?_
 refine gb (fun h2=>?_) (fun h2=>?_)
 ·have h2:=of_decide_eq_true h2
  intros;refine gr 0 0 ?_;refine sJ c222r5.eq_1 ?_
  intros;refine rV ?_;simp only[push_cast,Nat.reduceBEq]
  rw[if_pos h2]
 have h2:=of_decide_eq_false h2
 rw[if_neg h2]
 intros;refine gr 25 28 ?_;refine sJ c222r6.eq_1 ?_
 intros;refine gc ?_;refine sI ?_
 refine gb (fun h3=>?_) (fun h3=>?_)
 ·have h3:=of_decide_eq_true h3
  intros;refine gr 0 0 ?_;refine sJ c222r7.eq_1 ?_
  intros;refine rV ?_;simp only[push_cast,Nat.reduceBEq]
  rw[if_pos h3]
 have h3:=of_decide_eq_false h3
 rw[if_neg h3]
 obtain⟨n,rfl⟩:∃ m:Nat,n=m:=⟨n.toNat,by omega⟩
 have w1:IntKind.i64.wrap ((l.length:Int) - b)=(l.length:Int) - b:=by rw[w64_id] <;> omega
 intros;refine gr 29 35 ?_;refine sJ2 c222r8.eq_1 @w1 ?_
 intros;refine gc ?_;refine sI ?_
 refine gb (fun h4=>?_) (fun h4=>?_)
 ·have h4:=of_decide_eq_true h4
  intros;refine gr 0 0 ?_;refine sJ c222r9.eq_1 ?_
  intros;refine rV ?_;simp only[push_cast,Nat.reduceBEq]
  rw[if_pos (by omega)]
 have h4:=of_decide_eq_false h4
 rw[if_neg (by omega)]
 have w2:IntKind.i64.wrap ((b:Int)+n)=((b+n:Nat):Int):=by rw[w64_id] <;> omega
 intros;refine gN ?_
 intros;refine gr 35 45 ?_;refine sJ2 c222r10.eq_1 @w2 ?_
 refine slY_v b (b+n) c hl rfl rfl rfl (by omega) fun B hB=>?_
 refine sI ?_
 refine⟨_,strAt_b hB rfl,?_⟩
 refine sJ @w2 ?_
 intros;refine rV ?_;simp only[push_cast,Nat.reduceBEq]
theorem text_ok(l:List UInt8)(a:Int)(v:Value)(G:Nat→Option Obj)(hl:SB G v l):
  FnS Tryz.prog 221 #[v,.int .i64 a] G (.tuple #[.string (getT l a 64).1,.int .i64 (getT l a 64).2.1,.int .i64 (getT l a 64).2.2]):=by
 refine F221.fnS (by simp) (go_of ?_)
 unfold c221
 intros;refine gr 0 0 ?_;refine sJ c221r0.eq_1 ?_
 intros;refine gr 7 13 ?_;refine sJ c221r1.eq_1 ?_
 refine(GetText_ok l a 64 _ G hl _ _).mono ?_;rintro _ _ ⟨rfl,rfl⟩;refine sI ?_
 intros;refine rV ?_;simp only[push_cast,Nat.reduceBEq]
def bes(n d:Int):Int:=if d < -1099511627776∨1099511627776 < d then -1 else n+d
theorem beside_ok(n d:Int)(hn:0≤n∧n≤1099511627776)(G:Nat→Option Obj):FnS Tryz.prog 223 #[.int .i64 n,.int .i64 d] G (.int .i64 (bes n d)):=by
 refine F223.fnS (by simp) (go_of ?_)
 unfold c223
 intros;refine gr 0 0 ?_;refine sJ c223r0.eq_1 ?_
 have hbad:(d < -1099511627776∨1099511627776 < d)→∀ (fr:List Td) (e:Env),go none Tryz.prog 14 v223.1 v223.2 (retQ o223 fun v h=>v=.int .i64 (bes n d)) (Td.s ((SC.reg false c223r2).seq .ret) :: fr) e ⟨G,[],[]⟩:=fun hx fr e=>by
  intros;refine gr 0 0 ?_;refine sJ c223r2.eq_1 ?_
  intros;refine rV ?_;simp only[push_cast,Nat.reduceBEq]
  rw[bes,if_pos hx]
 intros;refine gr 5 10 ?_;refine sJ c223r1.eq_1 ?_
 refine gd (fun h1=>?_) (fun h1=>?_)
 ·refine sI ?_
  intros;refine gc ?_;refine sI ?_
  exact hbad (.inl (of_decide_eq_true h1)) _ _
 have h1:=of_decide_eq_false h1
 refine sI ?_
 intros;refine gc ?_;refine sI ?_
 refine gb (fun h2=>?_) (fun h2=>?_)
 ·exact hbad (.inr (of_decide_eq_true h2)) _ _
 have h2:=of_decide_eq_false h2
 have w:IntKind.i64.wrap (n+d)=n+d:=by rw[w64_id] <;> omega
 intros;refine gN ?_
 intros;refine gr 11 14 ?_;refine sJ2 c223r3.eq_1 @w ?_
 intros;refine rV ?_;simp only[push_cast,Nat.reduceBEq]
 rw[bes,if_neg (by omega)]
theorem F224:Fun Tryz.prog 224 32 v224 c224 o224:=Fun.mkA Tryz.func224 Tryz.ntmps224
theorem F225:Fun Tryz.prog 225 32 v225 c225 o225:=Fun.mkA Tryz.func225 Tryz.ntmps225
theorem F227:Fun Tryz.prog 227 32 v227 c227 o227:=Fun.mkA Tryz.func227 Tryz.ntmps227
theorem ldN_blk{h:H}{b o:Nat}{cs:List Value}{v:Value}(hm:Item.blk b cs∈h.L)(hv:cs[o]?=some v):LdN h (.pointer (some ⟨b,o,none⟩)) none v:=⟨_,rfl,.blk hm hv⟩
def nx{α:Type}(e:Int)(z:α)(x:Int)(r:α × Int × Int):α × Int × Int:=if e=0 then r else(z,x,e)
theorem nx_0{α:Type}{e:Int}{z:α}{x:Int}{r:α × Int × Int}(h:e=0):nx e z x r=r:=if_pos h
theorem nx_n{α:Type}{e:Int}{z:α}{x:Int}{r:α × Int × Int}(h:¬ e=0):nx e z x r=(z,x,e):=if_neg h
theorem fieldI_ok(l:List UInt8)(a e:Int)(v:Value)(b:Nat)(G:Nat→Option Obj)(hl:SB G v l)(g:Nat)(rd:List UInt8→Int→Int × Int × Int)
  (hg:FnS Tryz.prog g #[v,.int .i64 a] G (.tuple #[.int .i64 (rd l a).1,.int .i64 (rd l a).2.1,.int .i64 (rd l a).2.2])) :
  FnO Tryz.prog 224 #[.pointer (some ⟨b,0,none⟩),.func (.func g) #[] #[]] G [.blk b [v,.int .i64 a,.int .i64 e]] (fun _ L' r=>r=.int .i64 (nx e 0 a (rd l a)).1∧L'=[.blk b [v,.int .i64 (nx e 0 a (rd l a)).2.1,.int .i64 (nx e 0 a (rd l a)).2.2]]):=by
 obtain⟨A,c,rfl,-⟩:=hl
 refine F224.fnO (by simp) (noRegs_blk noRegs_nil) (go_of ?_)
 unfold c224
 intros;refine gr 0 0 ?_;refine sJ c224r0.eq_1 ?_
 intros;refine gr 0 0 ?_;refine sJ c224r1.eq_1 ?_
 intros;refine gr 6 10 ?_;refine sJ c224r2.eq_1 ?_
 refine⟨_,ldN_blk (.head _) rfl,?_⟩
 refine sI ?_
 intros;refine gc ?_;refine sI ?_
 refine gb (fun h1=>?_) (fun h1=>?_)
 ·have h1:=of_decide_eq_true h1
  (intros;try refine go_st ?_);refine go_w _ (List.Sublist.refl _) (by decide) ?_;refine sJ c224r3.eq_1 ?_
  refine⟨_,ldN_blk (.head _) rfl,?_⟩
  refine sI ?_
  refine⟨_,ldN_blk (.head _) rfl,?_⟩
  refine sI ?_
  refine .inl ⟨_,_,rfl,?_⟩
  refine(hg _ _).mono ?_;rintro _ _ ⟨rfl,rfl⟩;refine sI ?_
  refine again_0 ?_
  refine sI ?_
  refine stX_blk [] [] rfl (by simp) ⟨rfl,rfl⟩ ?_
  refine sI ?_
  refine again_0 ?_
  refine sI ?_
  refine stX_blk [] [] rfl (by simp) ⟨rfl,rfl⟩ ?_
  refine sI ?_
  (intros;try refine go_st ?_)
  intros;refine gr 31 32 ?_;refine sJ c224r4.eq_1 ?_
  (intros;try refine go_st ?_)
  refine go_ret (retQ_o _ rfl (List.Sublist.refl _) (noRegs_blk noRegs_nil) ?_)
  rw[nx_0 h1]
  exact⟨rfl,rfl⟩
 ·have h1:=of_decide_eq_false h1
  intros;refine gN ?_
  intros;refine gr 31 32 ?_;refine sJ c224r4.eq_1 ?_
  (intros;try refine go_st ?_)
  refine go_ret (retQ_o _ rfl (List.Sublist.refl _) (noRegs_blk noRegs_nil) ?_)
  rw[nx_n h1]
  exact⟨rfl,rfl⟩
theorem fieldB_ok(l:List UInt8)(a e:Int)(v:Value)(b:Nat)(G:Nat→Option Obj)(hl:SB G v l)(g:Nat)(rd:List UInt8→Int→Bool × Int × Int)
  (hg:FnS Tryz.prog g #[v,.int .i64 a] G (.tuple #[.bool (rd l a).1,.int .i64 (rd l a).2.1,.int .i64 (rd l a).2.2])) :
  FnO Tryz.prog 225 #[.pointer (some ⟨b,0,none⟩),.func (.func g) #[] #[]] G [.blk b [v,.int .i64 a,.int .i64 e]] (fun _ L' r=>r=.bool (nx e false a (rd l a)).1∧L'=[.blk b [v,.int .i64 (nx e false a (rd l a)).2.1,.int .i64 (nx e false a (rd l a)).2.2]]):=by
 obtain⟨A,c,rfl,-⟩:=hl
 refine F225.fnO (by simp) (noRegs_blk noRegs_nil) (go_of ?_)
 unfold c225
 intros;refine gr 0 0 ?_;refine sJ c225r0.eq_1 ?_
 intros;refine gr 0 0 ?_;refine sJ c225r1.eq_1 ?_
 intros;refine gr 6 10 ?_;refine sJ c225r2.eq_1 ?_
 refine⟨_,ldN_blk (.head _) rfl,?_⟩
 refine sI ?_
 intros;refine gc ?_;refine sI ?_
 refine gb (fun h1=>?_) (fun h1=>?_)
 ·have h1:=of_decide_eq_true h1
  (intros;try refine go_st ?_);refine go_w _ (List.Sublist.refl _) (by decide) ?_;refine sJ c225r3.eq_1 ?_
  refine⟨_,ldN_blk (.head _) rfl,?_⟩
  refine sI ?_
  refine⟨_,ldN_blk (.head _) rfl,?_⟩
  refine sI ?_
  refine .inl ⟨_,_,rfl,?_⟩
  refine(hg _ _).mono ?_;rintro _ _ ⟨rfl,rfl⟩;refine sI ?_
  refine again_0 ?_
  refine sI ?_
  refine stX_blk [] [] rfl (by simp) ⟨rfl,rfl⟩ ?_
  refine sI ?_
  refine again_0 ?_
  refine sI ?_
  refine stX_blk [] [] rfl (by simp) ⟨rfl,rfl⟩ ?_
  refine sI ?_
  (intros;try refine go_st ?_)
  intros;refine gr 31 32 ?_;refine sJ c225r4.eq_1 ?_
  (intros;try refine go_st ?_)
  refine go_ret (retQ_o _ rfl (List.Sublist.refl _) (noRegs_blk noRegs_nil) ?_)
  rw[nx_0 h1]
  exact⟨rfl,rfl⟩
 ·have h1:=of_decide_eq_false h1
  intros;refine gN ?_
  intros;refine gr 31 32 ?_;refine sJ c225r4.eq_1 ?_
  (intros;try refine go_st ?_)
  refine go_ret (retQ_o _ rfl (List.Sublist.refl _) (noRegs_blk noRegs_nil) ?_)
  rw[nx_n h1]
  exact⟨rfl,rfl⟩
theorem fieldS_ok(l:List UInt8)(a e:Int)(v:Value)(b:Nat)(G:Nat→Option Obj)(hl:SB G v l)(g:Nat)(rd:List UInt8→Int→ByteArray × Int × Int)
  (hg:FnS Tryz.prog g #[v,.int .i64 a] G (.tuple #[.string (rd l a).1,.int .i64 (rd l a).2.1,.int .i64 (rd l a).2.2])) :
  FnO Tryz.prog 227 #[.pointer (some ⟨b,0,none⟩),.func (.func g) #[] #[]] G [.blk b [v,.int .i64 a,.int .i64 e]] (fun _ L' r=>r=.string (nx e ⟨#[]⟩ a (rd l a)).1∧L'=[.blk b [v,.int .i64 (nx e ⟨#[]⟩ a (rd l a)).2.1,.int .i64 (nx e ⟨#[]⟩ a (rd l a)).2.2]]):=by
 obtain⟨A,c,rfl,-⟩:=hl
 refine F227.fnO (by simp) (noRegs_blk noRegs_nil) (go_of ?_)
 unfold c227
 intros;refine gr 0 0 ?_;refine sJ c227r0.eq_1 ?_
 intros;refine gr 0 0 ?_;refine sJ c227r1.eq_1 ?_
 intros;refine gr 6 10 ?_;refine sJ c227r2.eq_1 ?_
 refine⟨_,ldN_blk (.head _) rfl,?_⟩
 refine sI ?_
 intros;refine gc ?_;refine sI ?_
 refine gb (fun h1=>?_) (fun h1=>?_)
 ·have h1:=of_decide_eq_true h1
  (intros;try refine go_st ?_);refine go_w _ (List.Sublist.refl _) (by decide) ?_;refine sJ c227r3.eq_1 ?_
  refine⟨_,ldN_blk (.head _) rfl,?_⟩
  refine sI ?_
  refine⟨_,ldN_blk (.head _) rfl,?_⟩
  refine sI ?_
  refine .inl ⟨_,_,rfl,?_⟩
  refine(hg _ _).mono ?_;rintro _ _ ⟨rfl,rfl⟩;refine sI ?_
  refine again_0 ?_
  refine sI ?_
  refine stX_blk [] [] rfl (by simp) ⟨rfl,rfl⟩ ?_
  refine sI ?_
  refine again_0 ?_
  refine sI ?_
  refine stX_blk [] [] rfl (by simp) ⟨rfl,rfl⟩ ?_
  refine sI ?_
  (intros;try refine go_st ?_)
  intros;refine gr 31 32 ?_;refine sJ c227r4.eq_1 ?_
  (intros;try refine go_st ?_)
  refine go_ret (retQ_o _ rfl (List.Sublist.refl _) (noRegs_blk noRegs_nil) ?_)
  rw[nx_0 h1]
  exact⟨rfl,rfl⟩
 ·have h1:=of_decide_eq_false h1
  intros;refine gN ?_
  intros;refine gr 31 32 ?_;refine sJ c227r4.eq_1 ?_
  (intros;try refine go_st ?_)
  refine go_ret (retQ_o _ rfl (List.Sublist.refl _) (noRegs_blk noRegs_nil) ?_)
  rw[nx_n h1]
  exact⟨rfl,rfl⟩
theorem F214:Fun Tryz.prog 214 82 v214 c214 o214:=Fun.mkA Tryz.func214 Tryz.ntmps214
def noneR:Rec:=⟨0,⟨#[]⟩,⟨#[]⟩,false,0⟩
def g1(l:List UInt8)(a:Int):Int × Int × Int:=nx 0 0 a (getV l a)
def g2(l:List UInt8)(a:Int):Int × Int × Int:=nx (g1 l a).2.2 0 (g1 l a).2.1 (getV l (g1 l a).2.1)
def g3(l:List UInt8)(a:Int):Bool × Int × Int:=nx (g2 l a).2.2 false (g2 l a).2.1 (getF l (g2 l a).2.1.toNat)
def g4(l:List UInt8)(a:Int):ByteArray × Int × Int:=nx (g3 l a).2.2 ⟨#[]⟩ (g3 l a).2.1 (getT l (g3 l a).2.1 64)
def g5(l:List UInt8)(a:Int):ByteArray × Int × Int:=nx (g4 l a).2.2 ⟨#[]⟩ (g4 l a).2.1 (getT l (g4 l a).2.1 64)
def recR(l:List UInt8)(a base stamp:Int):Rec:=⟨bes base (g1 l a).1,(g4 l a).1,(g5 l a).1,(g3 l a).1,bes stamp (g2 l a).1⟩
def getR(l:List UInt8)(a base stamp:Int):Rec × Int × Int :=
 if inO base=true∧inO stamp=true∧0≤a∧a≤l.length then
  if (g5 l a).2.2=0 then(if chkR (recR l a base stamp)=0 then(recR l a base stamp,(g5 l a).2.1,0)else(noneR,0,1))else(noneR,0,(g5 l a).2.2)
 else(noneR,0,1)
theorem getV_nn(l:List UInt8)(a:Int):0≤(getV l a).2.1:=by
 by_cases h:(getV l a).2.2=0
 ·obtain⟨k,h1,h2,-⟩:=getV_ok h
  omega
 ·unfold getV at h ⊢
  split
  ·simp
  ·rename_i h0
   rw[if_neg h0]at h
   split
   ·rename_i h1;rw[if_pos h1]at h;simp at h
   ·simp
theorem g2_nn(l:List UInt8)(a:Int):0≤(g2 l a).2.1:=by
 unfold g2 nx
 split
 ·exact getV_nn _ _
 ·unfold g1
  rw[nx_0 rfl]
  exact getV_nn _ _
theorem RGet_ok(l:List UInt8)(a base stamp:Int)(v:Value)(G:Nat→Option Obj)(hl:SB G v l):
  FnE Tryz.prog 214 #[v,.int .i64 a,.int .i64 base,.int .i64 stamp] G (fun r=>r=.tuple #[.agg (cellR (getR l a base stamp).1).toArray,.int .i64 (getR l a base stamp).2.1,.int .i64 (getR l a base stamp).2.2]):=by
 obtain⟨A,c,rfl,hc,hm,hA⟩:=id hl
 refine F214.fnE (by simp) (go_of ?_)
 unfold c214
 have hck:=fun x=>Check_ok x
 unfold cellR at hck
 intros;refine gr 0 0 ?_;refine sJ c214r0.eq_1 ?_
 have hbad:∀ (fr:List Td) (e:Env),¬ (inO base=true∧inO stamp=true∧0≤a∧a≤l.length)→go none Tryz.prog 82 v214.1 v214.2 (retQ o214 fun v _=>v=.tuple #[.agg (cellR (getR l a base stamp).1).toArray,.int .i64 (getR l a base stamp).2.1,.int .i64 (getR l a base stamp).2.2]) (Td.s ((SC.reg false c214r2).seq .ret) :: fr) e ⟨G,[.reg 8 [.int .i64 0,.string ⟨#[]⟩,.string ⟨#[]⟩,.bool false,.int .i64 0]],[]⟩:=fun fr e hx=>by
  intros;refine gr 31 32 ?_;refine sJ c214r2.eq_1 ?_
  intros;refine rV ?_;simp only[push_cast,Nat.reduceBEq]
  rw[getR,if_neg hx]
  rfl
 intros;refine gr 13 30 ?_;refine sJ c214r1.eq_1 ?_
 refine(in_ok base G _ _).mono ?_;rintro _ _ ⟨rfl,rfl⟩;refine sI ?_
 refine gd (fun h1=>?_) (fun h1=>?_)
 ·refine sI ?_
  intros;refine gc ?_;refine sI ?_
  exact hbad _ _ fun h=>by rw[h.1]at h1;cases h1
 refine sI ?_
 refine(in_ok stamp G _ _).mono ?_;rintro _ _ ⟨rfl,rfl⟩;refine sI ?_
 refine gd (fun h2=>?_) (fun h2=>?_)
 ·refine sI ?_
  intros;refine gc ?_;refine sI ?_
  exact hbad _ _ fun h=>by rw[h.2.1]at h2;cases h2
 refine sI ?_
 refine gd (fun h3=>?_) (fun h3=>?_)
 ·refine sI ?_
  intros;refine gc ?_;refine sI ?_
  exact hbad _ _ fun h=>by have:=of_decide_eq_true h3;omega
 refine sI ?_
 intros;refine gc ?_;refine sI ?_
 refine gb (fun h4=>?_) (fun h4=>?_)
 ·exact hbad _ _ fun h=>by have:=of_decide_eq_true h4;omega
 clear hbad
 have h1:inO base=true:=by simpa using h1
 have h2:inO stamp=true:=by simpa using h2
 have h3:=of_decide_eq_false h3
 have h4:=of_decide_eq_false h4
 have hb:0≤base∧base≤1099511627776:=by simpa [inO]using h1
 have hs:0≤stamp∧stamp≤1099511627776:=by simpa [inO]using h2
 rw[show getR l a base stamp=(if (g5 l a).2.2=0 then(if chkR (recR l a base stamp)=0 then(recR l a base stamp,(g5 l a).2.1,0)else(noneR,0,1))else(noneR,0,(g5 l a).2.2))from if_pos ⟨h1,h2,by omega,by omega⟩]
 intros;refine gN ?_
 intros;refine gr 32 36 ?_;refine sJ c214r3.eq_1 ?_
 intro b hb0
 refine sI ?_
 intros;refine gr 0 0 ?_;refine sJ c214r4.eq_1 ?_
 intros;refine gr 36 40 ?_;refine sJ c214r5.eq_1 ?_
 refine(fieldI_ok l a 0 _ b G hl 213 getV (GetVar_ok l a _ G hl) _ []).mono ?_
 rintro r h' ⟨G1,L',rfl,hg1,rfl,rfl⟩
 rw[show nx 0 0 a (getV l a)=g1 l a from rfl]
 refine sI ?_
 refine(beside_ok base _ hb G1 _ _).mono ?_;rintro _ _ ⟨rfl,rfl⟩;refine sI ?_
 intros;refine gr 41 45 ?_;refine sJ c214r6.eq_1 ?_
 have hl1:=SB.le hl hg1
 refine(fieldI_ok l (g1 l a).2.1 (g1 l a).2.2 _ b G1 hl1 213 getV (GetVar_ok l _ _ G1 hl1) _ []).mono ?_
 rintro r h' ⟨G2,L',rfl,hg2,rfl,rfl⟩
 rw[show nx (g1 l a).2.2 0 (g1 l a).2.1 (getV l (g1 l a).2.1)=g2 l a from rfl]
 refine sI ?_
 refine(beside_ok stamp _ hs G2 _ _).mono ?_;rintro _ _ ⟨rfl,rfl⟩;refine sI ?_
 intros;refine gr 46 48 ?_;refine sJ c214r7.eq_1 ?_
 have hl2:=SB.le hl1 hg2
 have hfl:=flag_ok l (g2 l a).2.1.toNat _ G2 hl2
 rw[Int.toNat_of_nonneg (g2_nn l a)]at hfl
 refine(fieldB_ok l (g2 l a).2.1 (g2 l a).2.2 _ b G2 hl2 226 (fun l a=>getF l a.toNat) hfl _ []).mono ?_
 rintro r h' ⟨G3,L',rfl,hg3,rfl,rfl⟩
 rw[show nx (g2 l a).2.2 false (g2 l a).2.1 (getF l (g2 l a).2.1.toNat)=g3 l a from rfl]
 have hl3:=SB.le hl2 hg3
 refine sI ?_
 intros;refine gr 49 55 ?_;refine sJ c214r8.eq_1 ?_
 refine(fieldS_ok l (g3 l a).2.1 (g3 l a).2.2 _ b G3 hl3 221 (fun l a=>getT l a 64) (text_ok l _ _ G3 hl3) _ []).mono ?_
 rintro r h' ⟨G4,L',rfl,hg4,rfl,rfl⟩
 rw[show nx (g3 l a).2.2 ⟨#[]⟩ (g3 l a).2.1 (getT l (g3 l a).2.1 64)=g4 l a from rfl]
 have hl4:=SB.le hl3 hg4
 refine sI ?_
 refine(fieldS_ok l (g4 l a).2.1 (g4 l a).2.2 _ b G4 hl4 221 (fun l a=>getT l a 64) (text_ok l _ _ G4 hl4) _ []).mono ?_
 rintro r h' ⟨G5,L',rfl,hg5,rfl,rfl⟩
 rw[show nx (g4 l a).2.2 ⟨#[]⟩ (g4 l a).2.1 (getT l (g4 l a).2.1 64)=g5 l a from rfl]
 refine sI ?_
 intro _
 have hrr:recR l a base stamp=⟨bes base (g1 l a).1,(g4 l a).1,(g5 l a).1,(g3 l a).1,bes stamp (g2 l a).1⟩:=rfl
 generalize bes base (g1 l a).1=q0 at hrr ⊢
 generalize (g4 l a).1=q1 at hrr ⊢
 generalize (g5 l a).1=q2 at hrr ⊢
 generalize (g3 l a).1=q3 at hrr ⊢
 generalize bes stamp (g2 l a).1=q4 at hrr ⊢
 generalize (g5 l a).2.1=x5
 generalize (g5 l a).2.2=e5
 generalize recR l a base stamp=R at hrr ⊢
 have hckR:=hck R
 subst hrr
 dsimp only at hckR
 intros;try refine go_seq ?_
 refine go_cut (fun e h=>e 11=.pointer (some ⟨b,0,none⟩)∧h=⟨G5,[.blk b [.slice A l.length c,.int .i64 x5,.int .i64 (if e5=0 then chkR ⟨q0,q1,q2,q3,q4⟩else e5)],.reg 8 [.int .i64 q0,.string q1,.string q2,.bool q3,.int .i64 q4]],[]⟩) ?_ ?_
 ·intros;refine gr 57 61 ?_;refine sJ c214r9.eq_1 ?_
  refine⟨_,ldN_blk (.head _) rfl,?_⟩
  refine sI ?_
  intros;refine gc ?_;refine sI ?_
  refine gb (fun k1=>?_) (fun k1=>?_)
  ·have k1:=of_decide_eq_true k1
   intros;refine gr 62 67 ?_;refine sJ c214r10.eq_1 ?_
   refine(hckR G5 _ _).mono ?_;rintro _ _ ⟨rfl,rfl⟩;refine sI ?_
   refine stX_blk [] [_] rfl (by simp) ⟨rfl,rfl⟩ ?_
   refine sI ?_
   (intros;try refine go_st ?_)
   exact go_l ⟨eE,by rw[if_pos k1]⟩
  ·have k1:=of_decide_eq_false k1
   (intros;try refine go_st ?_)
   exact go_l ⟨eE,by rw[if_neg k1]⟩
 rintro e h ⟨e11,rfl⟩
 refine go_keep [11] ?_
 refine sJ @e11 ?_
 generalize hce:chkR ⟨q0,q1,q2,q3,q4⟩=ce
 have hck01:ce=0∨ce=1:=by
  rw[← hce]
  unfold chkR
  split
  ·exact .inl rfl
  ·exact .inr rfl
 generalize he':(if e5=0 then ce else e5)=e'
 intros;refine gr 67 71 ?_;refine sJ c214r11.eq_1 ?_
 refine⟨_,ldN_blk (.head _) rfl,?_⟩
 refine sI ?_
 intros;refine gc ?_;refine sI ?_
 refine gb (fun k1=>?_) (fun k1=>?_)
 ·have k1:=of_decide_eq_true k1
  (intros;try refine go_st ?_);refine go_w _ (.cons_cons _ (.cons _ (List.Sublist.refl _))) (by decide) ?_;refine sJ c214r12.eq_1 ?_
  refine⟨_,ldN_blk (.head _) rfl,?_⟩
  refine sI ?_
  refine⟨grow_L (fun _ _ h=>h) (.cons_cons _ (.cons _ (List.Sublist.refl _))),?_⟩
  refine sI ?_
  intros;refine rV ?_;simp only[push_cast,Nat.reduceBEq]
  by_cases h5:e5=0
  ·rw[if_pos h5]at he'
   subst he'
   rw[if_pos h5,if_neg k1,hck01.resolve_left k1]
   rfl
  ·rw[if_neg h5]at he'
   subst he'
   rw[if_neg h5]
   rfl
 ·have k1:e'=0:=by simpa using k1
  intros;refine gN ?_
  (intros;try refine go_st ?_);refine go_w _ (List.Sublist.refl _) (by decide) ?_;refine sJ c214r13.eq_1 ?_
  refine⟨_,ldN_blk (.head _) rfl,?_⟩
  refine sI ?_
  intros;refine rV ?_;simp only[push_cast,Nat.reduceBEq]
  by_cases h5:e5=0
  ·rw[if_pos h5]at he'
   rw[if_pos h5,if_pos (by rw[he'];exact k1)]
   rfl
  ·rw[if_neg h5]at he'
   rw[he']at h5
   exact absurd k1 h5
theorem g1_eq(l:List UInt8)(a:Int):g1 l a=getV l a:=nx_0 rfl
theorem getR_if{l:List UInt8}{a base stamp:Int}(h:inO base=true∧inO stamp=true∧0≤a∧a≤l.length):getR l a base stamp=(if (g5 l a).2.2=0 then(if chkR (recR l a base stamp)=0 then(recR l a base stamp,(g5 l a).2.1,0)else(noneR,0,1))else(noneR,0,(g5 l a).2.2)):=if_pos h
theorem getR_5{l:List UInt8}{a base stamp:Int}(h:inO base=true∧inO stamp=true∧0≤a∧a≤l.length)(h5:¬ (g5 l a).2.2=0):getR l a base stamp=(noneR,0,(g5 l a).2.2):=by rw[getR_if h,if_neg h5]
theorem getR_4{l:List UInt8}{a base stamp:Int}(h:inO base=true∧inO stamp=true∧0≤a∧a≤l.length)(h4:¬ (g4 l a).2.2=0):getR l a base stamp=(noneR,0,(g4 l a).2.2):=by
 have h5:(g5 l a).2.2=(g4 l a).2.2:=by rw[g5,nx_n h4]
 rw[getR_5 h (by rw[h5];exact h4),h5]
theorem getR_3{l:List UInt8}{a base stamp:Int}(h:inO base=true∧inO stamp=true∧0≤a∧a≤l.length)(h3:¬ (g3 l a).2.2=0):getR l a base stamp=(noneR,0,(g3 l a).2.2):=by
 have h4:(g4 l a).2.2=(g3 l a).2.2:=by rw[g4,nx_n h3]
 rw[getR_4 h (by rw[h4];exact h3),h4]
theorem getR_2{l:List UInt8}{a base stamp:Int}(h:inO base=true∧inO stamp=true∧0≤a∧a≤l.length)(h2:¬ (g2 l a).2.2=0):getR l a base stamp=(noneR,0,(g2 l a).2.2):=by
 have h3:(g3 l a).2.2=(g2 l a).2.2:=by rw[g3,nx_n h2]
 rw[getR_3 h (by rw[h3];exact h2),h3]
theorem getR_1{l:List UInt8}{a base stamp:Int}(h:inO base=true∧inO stamp=true∧0≤a∧a≤l.length)(h1:¬ (g1 l a).2.2=0):getR l a base stamp=(noneR,0,(g1 l a).2.2):=by
 have h2:(g2 l a).2.2=(g1 l a).2.2:=by rw[g2,nx_n h1]
 rw[getR_2 h (by rw[h2];exact h1),h2]
theorem F197:Fun Tryz.prog 197 33 v197 c197 o197:=Fun.mkA Tryz.func197 Tryz.ntmps197
theorem putN_succ(n k:Nat):putN n (k+1)=putN (n / 256) k++[UInt8.ofNat n]:=by
 unfold putN
 rw[List.range_succ,List.map_append]
 congr 1
 ·apply List.map_congr_left
  intro i hi
  have hi:=List.mem_range.1 hi
  congr 1
  rw[Nat.div_div_eq_div_mul,show k+1 - 1 - i=(k - 1 - i)+1 by omega,Nat.pow_succ,Nat.mul_comm]
 ·simp
theorem numB_snoc(l:List UInt8)(x:UInt8):numB (l++[x])=numB l * 256+x.toNat:=by simp[numB]
theorem putN_numB:∀ (k:Nat) (l:List UInt8),l.length=k→putN (numB l) k=l
 | 0,l,h=>by
  have:l=[]:=List.eq_nil_of_length_eq_zero h
  subst this
  rfl
 | k+1,l,h=>by
  obtain⟨m,x,rfl⟩:∃ m x,l=m++[x]:=by
   have hne:l≠[]:=by intro h0;rw[h0]at h;cases h
   exact⟨l.dropLast,l.getLast hne,(List.dropLast_concat_getLast hne).symm⟩
  have hx:=x.toNat_lt
  have hl:m.length=k:=by simpa using h
  rw[putN_succ,numB_snoc,show(numB m * 256+x.toNat) / 256=numB m by omega,putN_numB k m hl]
  congr 1
  have:UInt8.ofNat (numB m * 256+x.toNat)=x:=by
   apply UInt8.toNat_inj.1
   simp
  rw[this]
theorem numB_putN:∀ (k n:Nat),n < 256 ^ k→numB (putN n k)=n
 | 0,n,h=>by
  have:n=0:=by simpa using h
  subst this
  rfl
 | k+1,n,h=>by
  rw[Nat.pow_succ]at h
  rw[putN_succ,numB_snoc,numB_putN k (n / 256) (by omega)]
  simp
  try omega
def openB(l:List UInt8):List UInt8 × Int:=if l.length < 4 then([],10)else if l.drop (l.length - 4)=putN (crcB (l.take (l.length - 4))).toNat 4 then(l.take (l.length - 4),0)else([],20)
theorem putN_inj{a:W32}{m:List UInt8}(hm:m.length=4):numB m=a.toNat↔m=putN a.toNat 4:=by
 constructor
 ·intro h
  rw[← h,putN_numB 4 m hm]
 ·intro h
  rw[h,numB_putN 4 _ (by have:=a.isLt;omega)]
theorem Open_ok(l:List UInt8)(v:Value)(G:Nat→Option Obj)(hl:SB G v l)(hb:l.length≤1000000):FnO Tryz.prog 197 #[v] G [] (fun _ L' r=>OwnE (openB l) L' r):=by
 obtain⟨A,c,rfl,hc,hm,hA⟩:=id hl
 refine F197.fnO (by simp) noRegs_nil (go_of ?_)
 unfold c197
 have w1:IntKind.i64.wrap ((l.length:Int) - 4)=(l.length:Int) - 4:=by rw[w64_id] <;> omega
 intros;refine gr 0 0 ?_;refine sJ c197r0.eq_1 ?_
 intros;refine gr 7 10 ?_;refine sJ2 c197r1.eq_1 @w1 ?_
 intros;refine gr 10 11 ?_;refine sJ c197r2.eq_1 ?_
 intros;refine gc ?_;refine sI ?_
 refine gb (fun h1=>?_) (fun h1=>?_)
 ·have h1:=of_decide_eq_true h1
  intros;refine gr 0 0 ?_;refine sJ c197r3.eq_1 ?_
  (intros;try refine go_st ?_)
  refine go_ghost (ghost_nil none 5 1) ?_
  refine go_ret (retQ_o _ rfl (List.Sublist.refl _) (noRegs_row noRegs_nil) ?_)
  rw[openB,if_pos (by omega)]
  exact⟨_,rfl,[],.nil,rfl⟩
 have h1:=of_decide_eq_false h1
 obtain⟨k,hk⟩:∃ k,l.length=k+4:=⟨l.length - 4,by omega⟩
 have hn:((l.length:Int) - 4)=(k:Int):=by omega
 obtain⟨w,hw⟩:∃ w,w=crcB (l.take k):=⟨_,rfl⟩
 have hop:openB l=if l.drop k=putN w.toNat 4 then(l.take k,0)else([],20):=by rw[openB,if_neg (by omega),show l.length - 4=k by omega,← hw]
 have hd:(l.drop k).length=4:=by simp;omega
 have hng:=NGet_ok l k 4 (by omega) _ G hl
 rw[getN_nat,if_neg (by omega),List.take_of_length_le (by omega)]at hng
 have hinj:=putN_inj (a:=w) hd
 have hpre:=SlV.pre k hl (by omega)
 have hsum:=Sum_ok (l.take k) _ G hpre
 rw[← hw]at hsum
 unfold vW at hsum
 obtain⟨x,hx⟩:∃ x,x=numB (l.drop k):=⟨_,rfl⟩
 rw[← hx]at hng hinj
 dsimp only at hng
 rw[hn]
 have hbad:¬ l.drop k=putN w.toNat 4→∀ (fr:List Td) (e:Env) (G':Nat→Option Obj),go none Tryz.prog 33 v197.1 v197.2 (retQ o197 fun v h=>OwnE (openB l) h.L v) (Td.s ((SC.reg false c197r6).seq .ret) :: fr) e ⟨G',[],[]⟩:=fun hx fr e G'=>by
  intros;refine gr 0 0 ?_;refine sJ c197r6.eq_1 ?_
  (intros;try refine go_st ?_)
  refine go_ghost (ghost_nil none 5 1) ?_
  refine go_ret (retQ_o _ rfl (List.Sublist.refl _) (noRegs_row noRegs_nil) ?_)
  rw[hop,if_neg hx]
  exact⟨_,rfl,[],.nil,rfl⟩
 intros;refine gN ?_
 intros;refine gr 12 18 ?_;refine sJ c197r4.eq_1 ?_
 refine(hng _ _).mono ?_;rintro _ _ ⟨rfl,rfl⟩;refine sI ?_
 intros;refine gr 18 28 ?_;refine sJ c197r5.eq_1 ?_
 refine gd (fun h=>by simp at h) (fun _=>?_)
 refine sI ?_
 refine⟨by omega,?_⟩
 refine(hsum _ _).mono ?_
 rintro r h' ⟨G1,rfl,hg1,rfl⟩
 refine sJ @u64_W ?_
 intros;refine gc ?_;refine sI ?_
 refine gb (fun h2=>?_) (fun h2=>?_)
 ·have h2:=of_decide_eq_true h2
  exact hbad (fun h=>h2 (by rw[hinj.2 h])) _ _ _
 have h2:l.drop k=putN w.toNat 4:=hinj.1 (by have:=of_decide_eq_false h2;omega)
 clear hbad
 intros;refine gN ?_
 intros;refine gr 29 33 ?_;refine sJ c197r7.eq_1 ?_
 refine⟨by omega,?_⟩
 refine apX_v (.inr ⟨⟨none,rfl⟩,rfl,rfl,rfl,rfl⟩) (SB.le hpre hg1) rfl UE1 (by simp;unfold maxLen;omega) fun ys A c hc=>?_
 simp only[Nat.zero_add,List.nil_append]
 refine sI ?_
 (intros;try refine go_st ?_)
 refine go_ret (retQ_o _ rfl (List.Sublist.refl _) (noRegs_row noRegs_nil) ?_)
 rw[hop,if_pos h2]
 exact⟨_,rfl,ys,hc,rfl⟩
theorem F212:Fun Tryz.prog 212 18 v212 c212 o212:=Fun.mkA Tryz.func212 Tryz.ntmps212
theorem F198:Fun Tryz.prog 198 155 v198 c198 o198:=Fun.mkA Tryz.func198 Tryz.ntmps198
def nums(l:List UInt8):Nat→Option (List Int × Nat)
 | 0=>some ([],0)
 | k+1=>(nums l k).bind fun r=>if (getV l r.2).2.2=0 then some (r.1++[(getV l r.2).1],(getV l r.2).2.1.toNat)else none
def recsG(l:List UInt8)(base stamp:Int)(p:Nat):Nat→Option (List Rec × Nat)
 | 0=>some ([],p)
 | k+1=>(recsG l base stamp p k).bind fun r=>if (getR l r.2 base stamp).2.2=0 then some (r.1++[(getR l r.2 base stamp).1],(getR l r.2 base stamp).2.1.toNat)else none
def stOk(rs:List Rec)(stamp:Int):Bool:=match rs with
 | []=>true
 | r :: _=>decide (r.stamp=stamp)
def mkB(ns:List Int)(m:UInt8)(rs:List Rec):Batch:=⟨ns.getD 0 0,ns.getD 0 0+ns.getD 1 0,ns.getD 2 0,ns.getD 3 0,ns.getD 4 0,ns.getD 5 0,ns.getD 6 0,decide (4≤m.toNat),((m.toNat % 4:Nat):Int),rs⟩
def parse4(l:List UInt8)(ns:List Int)(m:UInt8)(many:Nat)(s:Int × Int × Int):Option Batch :=
 if s.2.2=0 then(recsG l (ns.getD 0 0) s.1 s.2.1.toNat many).bind fun r=>if r.2=l.length∧stOk r.1 s.1=true then some (mkB ns m r.1)else none else none
def parse3(l:List UInt8)(ns:List Int)(m:UInt8)(v:Int × Int × Int):Option Batch :=
 if v.2.2=0∧0≤v.1∧v.1≤16 then parse4 l ns m v.1.toNat (if 0 < v.1 then getV l v.2.1 else(0,v.2.1,0))else none
def parse2(w:Int)(l:List UInt8)(q:List Int × Nat):Option Batch :=
 (l[q.2]?).bind fun m=>if m.toNat < 8∧(0≤q.1.getD 0 0∧q.1.getD 0 0≤1099511627776)∧(0≤q.1.getD 1 0∧q.1.getD 1 0≤w)then parse3 l q.1 m (getV l ((q.2:Int)+1))else none
def parseB(w:Int)(l:List UInt8):Option Batch:=(nums l 7).bind (parse2 w l)
theorem nums_none{l:List UInt8}:∀ (j k:Nat),nums l k=none→nums l (k+j)=none
 | 0,_,h=>h
 | j+1,k,h=>by rw[← Nat.add_assoc,nums,nums_none j k h];rfl
theorem recsG_none{l:List UInt8}{base stamp:Int}{p:Nat}:∀ (j k:Nat),recsG l base stamp p k=none→recsG l base stamp p (k+j)=none
 | 0,_,h=>h
 | j+1,k,h=>by rw[← Nat.add_assoc,recsG,recsG_none j k h];rfl
theorem recsG_pre{l:List UInt8}{base stamp:Int}{p many:Nat}{q:List Rec × Nat}(h:recsG l base stamp p many=some q):∀ k,k≤many→∃ q2,recsG l base stamp p k=some q2∧∃ t,q.1=q2.1++t:=by
 induction many generalizing q with
 | zero =>
  intro k hk
  have:k=0:=by omega
  subst this
  exact⟨q,h,[],by simp⟩
 | succ n ih =>
  intro k hk
  by_cases hkn:k=n+1
  ·subst hkn
   exact⟨q,h,[],by simp⟩
  ·rw[recsG]at h
   cases hn:recsG l base stamp p n with
   | none=>rw[hn]at h;cases h
   | some q1 =>
    rw[hn]at h
    simp only[Option.bind_some]at h
    split at h
    ·cases h
     obtain⟨q2,h2,t,ht⟩:=ih hn k (by omega)
     exact⟨q2,h2,t++[_],by dsimp only;rw[ht,List.append_assoc]⟩
    ·cases h
theorem number_ok(l:List UInt8)(a:Int)(ok:Bool)(b1 b3 b4:Nat)(v:Value)(G:Nat→Option Obj)(hl:SB G v l)(h1:cellG G ⟨b1,0,none⟩=some v):
  FnO Tryz.prog 212 #[.pointer (some ⟨b1,0,none⟩),.pointer (some ⟨b4,0,none⟩),.pointer (some ⟨b3,0,none⟩)] G [.blk b4 [.int .i64 a],.blk b3 [.bool ok]]
   (fun G' L' r=>G=G'∧r=.int .i64 (if (getV l a).2.2=0 then(getV l a).1 else 0)∧L'=[.blk b4 [.int .i64 (if (getV l a).2.2=0 then(getV l a).2.1 else a)],.blk b3 [.bool (if (getV l a).2.2=0 then ok else false)]]):=by
 refine F212.fnO (by simp) (noRegs_blk (noRegs_blk noRegs_nil)) (go_of ?_)
 unfold c212
 have hgv:=GetVar_ok l a v G hl
 intros;refine gr 0 0 ?_;refine sJ c212r0.eq_1 ?_
 intros;refine gr 7 14 ?_;refine sJ c212r1.eq_1 ?_
 refine⟨_,⟨_,rfl,.g h1⟩,?_⟩
 refine sI ?_
 refine⟨_,ldN_blk (.head _) rfl,?_⟩
 refine(hgv _ _).mono ?_;rintro _ _ ⟨rfl,rfl⟩;refine sI ?_
 intros;refine gr 14 15 ?_;refine sJ c212r2.eq_1 ?_
 intros;refine gc ?_;refine sI ?_
 refine gb (fun k1=>?_) (fun k1=>?_)
 ·have k1:=of_decide_eq_true k1
  intros;refine gr 0 0 ?_;refine sJ c212r3.eq_1 ?_
  refine stX_blk [_] [] rfl (by simp) ⟨rfl,rfl⟩ ?_
  refine sI ?_
  intros;refine gr 0 0 ?_;refine sJ c212r4.eq_1 ?_
  (intros;try refine go_st ?_)
  refine go_ret (retQ_o _ rfl (List.Sublist.refl _) (noRegs_blk (noRegs_blk noRegs_nil)) ?_)
  rw[if_neg k1,if_neg k1,if_neg k1]
  exact⟨rfl,rfl,rfl⟩
 ·have k1:(getV l a).2.2=0:=by simpa using k1
  intros;refine gN ?_
  intros;refine gr 16 17 ?_;refine sJ c212r5.eq_1 ?_
  refine stX_blk [] [_] rfl (by simp) ⟨rfl,rfl⟩ ?_
  refine sI ?_
  intros;refine gr 17 18 ?_;refine sJ c212r6.eq_1 ?_
  (intros;try refine go_st ?_)
  refine go_ret (retQ_o _ rfl (List.Sublist.refl _) (noRegs_blk (noRegs_blk noRegs_nil)) ?_)
  rw[if_pos k1,if_pos k1,if_pos k1]
  exact⟨rfl,rfl,rfl⟩
def numC(ns:List Int):List Value:=ns.map fun n=>.int .i64 n
theorem splice_num{zs:List Int}{k:Nat}{x:Int}(hk:k < zs.length):splice (numC zs) k [.int .i64 x]=numC (zs.set k x):=by
 rw[splice1 _ (by simpa [numC]using hk)]
 simp[numC]
theorem take_set{zs:List Int}{k:Nat}{x:Int}(hk:k < zs.length):(zs.set k x).take (k+1)=zs.take k++[x]:=by
 rw[List.take_succ_eq_append_getElem (by simpa using hk),List.take_set_of_le (Nat.le_refl _)]
 simp
theorem and_4{x:UInt8}(h:x.toNat < 8):binV .and (.int .u8 (x.toNat:Int)) (.int .u8 4)=some (.int .u8 (if 4≤x.toNat then 4 else 0)):=by
 have key:∀ b:Fin 8,(BitVec.ofInt 8 ((b.val:Nat):Int) &&& BitVec.ofInt 8 4).toNat=if 4≤b.val then 4 else 0:=by decide +kernel
 have h2:=key ⟨x.toNat,h⟩
 simp only[binV]
 rw[if_pos trivial]
 have h3:(BitVec.ofInt IntKind.u8.bits (x.toNat:Int) &&& BitVec.ofInt IntKind.u8.bits 4).toNat=if 4≤x.toNat then 4 else 0:=h2
 rw[h3]
 split <;> rfl
theorem andNot_4{x:UInt8}(h:x.toNat < 8):binV .andNot (.int .u8 (x.toNat:Int)) (.int .u8 4)=some (.int .u8 ((x.toNat % 4:Nat):Int)):=by
 have key:∀ b:Fin 8,(BitVec.ofInt 8 ((b.val:Nat):Int) &&& ~~~ BitVec.ofInt 8 4).toNat=b.val % 4:=by decide +kernel
 have h2:=key ⟨x.toNat,h⟩
 simp only[binV]
 rw[if_pos trivial]
 have h3:(BitVec.ofInt IntKind.u8.bits (x.toNat:Int) &&& ~~~ BitVec.ofInt IntKind.u8.bits 4).toNat=x.toNat % 4:=h2
 rw[h3,IntKind.wrap_u8]
 congr 2
 omega
def ParseR(w:Int)(l:List UInt8)(G:Nat→Option Obj)(r:Value):Prop:=∃ x cs ok,r=.tuple #[.agg cs.toArray,.bool ok]∧BE G x cs∧(if ok=true then parseB w l=some x else parseB w l=none)
theorem BE.zero{G:Nat→Option Obj}:BE G ⟨0,0,0,0,0,0,0,false,0,[]⟩ [.int .i64 0,.int .i64 0,.int .i64 0,.int .i64 0,.int .i64 0,.int .i64 0,.int .i64 0,.bool false,.int .i64 0,.slice none 0 0]:=⟨none,0,rfl,⟨Nat.le_refl _,Nat.zero_le _,fun i x hx=>by simp at hx⟩,by decide,by decide,by decide,by decide,by decide,by decide,by decide,by decide⟩
theorem getV_i(l:List UInt8)(a:Int):I64 (if (getV l a).2.2=0 then(getV l a).1 else 0):=by
 split
 ·rename_i h
  obtain⟨_,_,_,_,_,h⟩:=getV_ok h
  exact h
 ·decide
theorem app1{α:Type}{E:α→List Value→Prop}{P:Program}{h:H}{d sz et nb:Nat}{l:List SI}{e:Env}{K:Env→H→Prop}{u:Value}{b:Nat}{zs:List α}{zc cs:List Value}{L1 L2:List Kx.Item}{x:α}(hL:h.L=.row (.slice (some ⟨b,0,none⟩) 1 1) et sz 1 cs :: L1++.row u et sz zs.length zc :: L2)
  (hE:E x cs) (hl:cs.length=sz) (h1:∀ u∈cs,u.oneCell'=true) (hc:Cells E sz zs zc) (hz:zs.length≤1000000) (hnb:nb≤1000)
  (hk:∀ A' c' zc',Cells E sz (zs++[x]) zc'→kR P l d e K (.slice A' (zs++[x]).length c') ⟨h.G,.row (.slice (some ⟨b,0,none⟩) 1 1) et sz 1 cs :: L1++.row (.slice A' (zs++[x]).length c') et sz (zs++[x]).length zc' :: L2,h.D⟩) :
  apX P u (.slice (some ⟨b,0,none⟩) 1 1) et sz nb d l e h K:=by
 refine⟨.row (.slice (some ⟨b,0,none⟩) 1 1) et sz 1 cs :: L1,zs.length,zc,L2,1,cs,.inl hL,srcH_row (h:=h) (by rw[hL];exact .head _) h1 (by rw[hl,Nat.one_mul]),⟨?_,by unfold maxLen;omega⟩,fun A' c'=>?_⟩
 ·have:(zs.length+1) * nb≤1000001 * 1000:=Nat.mul_le_mul (by omega) hnb
  omega
 ·have:=hk A' c' (zc++cs) (hc.app (.one hE hl))
  simp only[List.length_append,List.length_cons,List.length_nil,Nat.zero_add]at this
  exact this
theorem getR_RR(l:List UInt8)(a base stamp:Int):RR (getR l a base stamp).1 (cellR (getR l a base stamp).1):=by
 have hz:RR noneR (cellR noneR):=⟨rfl,⟨by decide,by decide⟩,by decide,by decide⟩
 unfold getR
 split
 ·split
  ·split
   ·rename_i h
    obtain⟨⟨h1,h2⟩,h3,h4⟩:=chk_small h
    simp[inO]at h1 h2
    refine⟨rfl,⟨?_,?_⟩,?_,?_⟩
    ·dsimp only;unfold I64;omega
    ·dsimp only;unfold I64;omega
    ·dsimp only;unfold maxLen;omega
    ·dsimp only;unfold maxLen;omega
   ·exact hz
  ·exact hz
 ·exact hz
theorem getT_nn(l:List UInt8)(a most:Int):0≤(getT l a most).2.1:=by
 have:=getV_nn l a
 unfold getT
 split
 ·split
  ·simp
  ·split
   ·simp
   ·split
    ·simp
    ·dsimp only;omega
 ·simp
theorem getR_nn(l:List UInt8)(a base stamp:Int):0≤(getR l a base stamp).2.1:=by
 unfold getR
 split
 ·split
  ·rename_i h5
   split
   ·dsimp only
    unfold g5 nx at h5 ⊢
    split
    ·exact getT_nn _ _ _
    ·rename_i h4
     rw[if_neg h4]at h5
     exact absurd h5 h4
   ·simp
  ·simp
 ·simp
set_option maxHeartbeats 2000000 in
theorem parse_ok(l:List UInt8)(v:Value)(G:Nat→Option Obj)(hl:SB G v l)(hb:l.length≤1000000):FnD Tryz.prog 198 #[v] G (ParseR 15 l):=by
 refine F198.fnD (by simp) (go_of ?_)
 have hl00:=hl
 obtain⟨A,c,rfl,hc,hm,hA⟩:=hl
 unfold c198
 intros;refine gr 0 0 ?_;refine sJ c198r0.eq_1 ?_
 intro b1 hb1
 refine sI ?_
 intro b3 hb3
 refine sI ?_
 intros;refine gr 0 0 ?_;refine sJ c198r1.eq_1 ?_
 intro b4 hb4
 refine sI ?_
 refine stX_blk [] [_,_,_] rfl (by simp) ⟨rfl,rfl⟩ ?_
 refine sI ?_
 intros;refine gr 0 0 ?_;refine sJ c198r2.eq_1 ?_
 refine stX_blk [_] [_,_] rfl (by simp) ⟨rfl,rfl⟩ ?_
 refine sI ?_
 intros;refine gr 15 16 ?_;refine sJ c198r3.eq_1 ?_
 intros;refine gr 0 0 ?_;refine sJ c198r4.eq_1 ?_
 intro b6 hb6
 refine sI ?_
 intros;refine gr 0 0 ?_;refine sJ c198r5.eq_1 ?_
 intros;refine gN ?_
 refine go_gx (gx_blk_at [_,_,_,_] []) ?_
 rintro h' ⟨G1,rfl,hg1,hcell⟩
 have h1:cellG G1 ⟨b1,0,none⟩=some (.slice A l.length c):=by have:=hcell 0 _ rfl;rwa [add_mk]at this
 clear hcell
 have hl1:=SB.le hl00 hg1
 refine go_ghost (ghost_perm (L':=[.blk b4 [.int .i64 0],.blk b3 [.bool true],.blk b6 (numC [0,0,0,0,0,0,0]),.reg 2 [.int .i64 0,.int .i64 0,.int .i64 0,.int .i64 0,.int .i64 0,.int .i64 0,.int .i64 0,.bool false,.int .i64 0,.slice none 0 0]]) ((List.Perm.swap _ _ _).trans (List.Perm.cons _ (List.Perm.swap _ _ _)))) ?_
 have hrest:∀ (e:Env),True:=fun _=>trivial
 refine go_cut (fun e h=>∃ (ns:List Int) (a:Int) (ok:Bool),(ns.length=7∧(∀ z∈ns,I64 z)∧((ok=true∧0≤a∧nums l 7=some (ns,a.toNat))∨(ok=false∧nums l 7=none))) ∧
  (e 1=.pointer (some ⟨b1,0,none⟩)∧e 3=.pointer (some ⟨b3,0,none⟩)∧e 4=.pointer (some ⟨b4,0,none⟩)∧e 6=.pointer (some ⟨b6,0,none⟩)∧e 5=.func (.func 212) #[] #[.pointer (some ⟨b1,0,none⟩),.pointer (some ⟨b4,0,none⟩),.pointer (some ⟨b3,0,none⟩)]) ∧
  h=⟨G1,[.blk b4 [.int .i64 a],.blk b3 [.bool ok],.blk b6 (numC ns),.reg 2 [.int .i64 0,.int .i64 0,.int .i64 0,.int .i64 0,.int .i64 0,.int .i64 0,.int .i64 0,.bool false,.int .i64 0,.slice none 0 0]],[]⟩) ?_ ?_
 ·(intros;try refine go_st ?_)
  refine go_loop (fun e h=>∃ (k:Nat) (zs:List Int) (a:Int) (ok:Bool),(k≤7∧zs.length=7∧(∀ z∈zs,I64 z)∧((ok=true∧0≤a∧nums l k=some (zs.take k,a.toNat))∨(ok=false∧nums l 7=none)))∧e 16=.int .i64 k ∧
   e 1=.pointer (some ⟨b1,0,none⟩)∧e 3=.pointer (some ⟨b3,0,none⟩)∧e 4=.pointer (some ⟨b4,0,none⟩)∧e 6=.pointer (some ⟨b6,0,none⟩)∧e 5=.func (.func 212) #[] #[.pointer (some ⟨b1,0,none⟩),.pointer (some ⟨b4,0,none⟩),.pointer (some ⟨b3,0,none⟩)] ∧
   h=⟨G1,[.blk b4 [.int .i64 a],.blk b3 [.bool ok],.blk b6 (numC zs),.reg 2 [.int .i64 0,.int .i64 0,.int .i64 0,.int .i64 0,.int .i64 0,.int .i64 0,.int .i64 0,.bool false,.int .i64 0,.slice none 0 0]],[]⟩) (fun e h=>7 - iv (e 16)) ?_ ?_
  ·exact⟨0,[0,0,0,0,0,0,0],0,true,⟨Nat.zero_le _,rfl,by decide,.inl ⟨rfl,by omega,rfl⟩⟩,eE,eE,eE,eE,eE,eE,rfl⟩
  ·rintro e h ⟨k,zs,a,ok,⟨hk,hzl,hzi,hst⟩,e16,e1,e3,e4,e6,e5,rfl⟩
   refine go_keep [1,3,4,5,6,16] ?_
   refine sJ6 @e1 @e3 @e4 @e5 @e6 @e16 ?_
   intros;refine gr 0 0 ?_;refine sJ c198r6.eq_1 ?_
   intros;refine gc ?_;refine sI ?_
   refine gb (fun ht=>?_) (fun ht=>?_)
   ·have hk7:k < 7:=by have:=of_decide_eq_true ht;omega
    have hw:=inc_i k 7 hk7 (by unfold maxLen;omega)
    have hi:=getV_i l a
    intros;refine gN ?_
    intros;refine gr 18 19 ?_;refine sJ c198r7.eq_1 ?_
    intros;refine gr 19 23 ?_;refine sJ c198r8.eq_1 ?_
    refine .inl ⟨_,_,rfl,?_⟩
    refine(number_ok l a ok b1 b3 b4 _ G1 hl1 h1 _ []).mono ?_
    rintro r h' ⟨G',L',rfl,-,rfl,rfl,rfl⟩
    refine sI ?_
    refine⟨by omega,?_⟩
    rw[show 0+k * 1=k by omega]
    refine stX_blk [_,_] [_] rfl (by simp[numC];omega) ⟨rfl,rfl⟩ ?_
    simp only[List.cons_append,List.nil_append]
    rw[splice_num (by omega)]
    refine sI ?_
    intros;refine gr 23 24 ?_;refine sJ2 c198r9.eq_1 @hw ?_
    (intros;try refine go_st ?_)
    refine go_l ⟨⟨k+1,zs.set k (if (getV l a).2.2=0 then(getV l a).1 else 0),(if (getV l a).2.2=0 then(getV l a).2.1 else a),(if (getV l a).2.2=0 then ok else false),⟨by omega,by simp[hzl],fun z hz=>?_,?_⟩,eE,eE,eE,eE,eE,eE,rfl⟩,?_⟩
    ·rcases List.mem_or_eq_of_mem_set hz with h | h
     ·exact hzi z h
     ·rw[h];exact hi
    ·rcases hst with⟨h1,h2,h3⟩ | ⟨h1,h2⟩
     ·by_cases hv:(getV l a).2.2=0
      ·rw[if_pos hv,if_pos hv,if_pos hv]
       refine .inl ⟨h1,getV_nn l a,?_⟩
       rw[nums,h3,take_set (by omega)]
       simp only[Option.bind_some]
       rw[Int.toNat_of_nonneg h2,if_pos hv]
      ·rw[if_neg hv,if_neg hv,if_neg hv]
       refine .inr ⟨rfl,?_⟩
       have:nums l (k+1)=none:=by
        rw[nums,h3]
        simp only[Option.bind_some]
        rw[Int.toNat_of_nonneg h2,if_neg hv]
       have:=nums_none (7 - (k+1)) (k+1) this
       rwa [show k+1+(7 - (k+1))=7 by omega]at this
     ·refine .inr ⟨?_,h2⟩
      rw[h1]
      split <;> rfl
    ·refine sI ?_
     omega
   ·have hk7:k=7:=by have:=of_decide_eq_false ht;omega
    subst hk7
    rw[List.take_of_length_le (by omega)]at hst
    refine go_exit ?_
    refine sI ?_
    exact go_l ⟨zs,a,ok,⟨hzl,hzi,hst⟩,⟨eE,eE,eE,eE,eE⟩,rfl⟩
 rintro e h ⟨ns,a,ok,⟨hnl,hni,hst⟩,⟨e1,e3,e4,e6,e5⟩,rfl⟩
 refine go_keep [1,3,4,5,6] ?_
 refine sJ5 @e1 @e3 @e4 @e5 @e6 ?_
 have hbad:∀ (fr:List Td) (e:Env) (a:Int) (ok:Bool),parseB 15 l=none→e 3=.pointer (some ⟨b3,0,none⟩)→go none Tryz.prog 155 v198.1 v198.2 (retQ o198 fun v h=>ParseR 15 l h.G v) (Td.s ((SC.reg false c198r11).seq .ret) :: fr) e ⟨G1,[.blk b4 [.int .i64 a],.blk b3 [.bool ok],.blk b6 (numC ns),.reg 2 [.int .i64 0,.int .i64 0,.int .i64 0,.int .i64 0,.int .i64 0,.int .i64 0,.int .i64 0,.bool false,.int .i64 0,.slice none 0 0]],[]⟩:=fun fr e a ok hx e3=>by
  refine go_keep [3] ?_
  refine sJ @e3 ?_
  intros;refine gr 59 60 ?_;refine sJ c198r11.eq_1 ?_
  refine stX_blk [_] [_,_] rfl (by simp) ⟨rfl,rfl⟩ ?_
  refine sI ?_
  (intros;try refine go_st ?_)
  refine go_ghost (ghost_sub (L':=[.blk b3 [.bool false],.reg 2 [.int .i64 0,.int .i64 0,.int .i64 0,.int .i64 0,.int .i64 0,.int .i64 0,.int .i64 0,.bool false,.int .i64 0,.slice none 0 0]]) (.cons _ (.cons_cons _ (.cons _ (List.Sublist.refl _))))) ?_
  refine go_ret (retQ_v (out:=[.agg #[.int .i64 0,.int .i64 0,.int .i64 0,.int .i64 0,.int .i64 0,.int .i64 0,.int .i64 0,.bool false,.int .i64 0,.slice none 0 0],.bool false]) ?_ ?_)
  ·simp[o198,resV,Kx.getR,getB,blkO,ldC,Env.set]
  ·refine⟨_,_,false,rfl,BE.zero,?_⟩
   exact hx
 obtain⟨n0,n1,n2,n3,n4,n5,n6,rfl⟩:∃ n0 n1 n2 n3 n4 n5 n6:Int,ns=[n0,n1,n2,n3,n4,n5,n6]:=by
  match ns,hnl with
  | [n0,n1,n2,n3,n4,n5,n6],_=>exact⟨n0,n1,n2,n3,n4,n5,n6,rfl⟩
 have m3:∀ {x y z u:Kx.Item} {L:List Kx.Item},z∈x :: y :: z :: u :: L:=.tail _ (.tail _ (.head _))
 have m2:∀ {x y z u:Kx.Item} {L:List Kx.Item},y∈x :: y :: z :: u :: L:=.tail _ (.head _)
 have hA1:=hA.le hg1 (E':=UE) fun _ _ h=>h
 unfold maxLen at hm
 intros;try refine go_seq ?_
 refine go_cut (fun e h=>∃ (p:Nat) (m:UInt8),(nums l 7=some ([n0,n1,n2,n3,n4,n5,n6],p)∧l[p]?=some m∧m.toNat < 8∧(0≤n0∧n0≤1099511627776)∧0≤n1∧n1≤15) ∧
  (e 1=.pointer (some ⟨b1,0,none⟩)∧e 3=.pointer (some ⟨b3,0,none⟩)∧e 4=.pointer (some ⟨b4,0,none⟩)∧e 6=.pointer (some ⟨b6,0,none⟩)∧e 5=.func (.func 212) #[] #[.pointer (some ⟨b1,0,none⟩),.pointer (some ⟨b4,0,none⟩),.pointer (some ⟨b3,0,none⟩)]) ∧
  h=⟨G1,[.blk b4 [.int .i64 (p:Int)],.blk b3 [.bool true],.blk b6 (numC [n0,n1,n2,n3,n4,n5,n6]),.reg 2 [.int .i64 0,.int .i64 0,.int .i64 0,.int .i64 0,.int .i64 0,.int .i64 0,.int .i64 0,.bool false,.int .i64 0,.slice none 0 0]],[]⟩) ?_ ?_
 ·intros;refine gr 24 58 ?_;refine sJ c198r10.eq_1 ?_
  refine⟨_,ldN_blk m2 rfl,?_⟩
  refine sI ?_
  refine gd (fun k0=>?_) (fun k0=>?_)
  ·have k0:ok=false:=by simpa using k0
   refine sI ?_
   intros;refine gc ?_;refine sI ?_
   rcases hst with⟨h,_⟩ | ⟨_,h⟩
   ·rw[h]at k0;cases k0
   ·refine hbad _ _ _ _ (by rw[parseB,h];rfl) (eE)
  have k0:ok=true:=by simpa using k0
  subst k0
  rcases hst with⟨-,ha,hnum⟩ | ⟨h,_⟩
  rotate_left
  ·cases h
  obtain⟨p,rfl⟩:∃ p:Nat,a=p:=⟨a.toNat,by omega⟩
  rw[Int.toNat_natCast]at hnum
  have hb2:parse2 15 l ([n0,n1,n2,n3,n4,n5,n6],p)=none→parseB 15 l=none:=fun h=>by rw[parseB,hnum];exact h
  refine sI ?_
  refine⟨_,ldN_blk (.head _) rfl,?_⟩
  refine sI ?_
  refine⟨_,⟨_,rfl,.g h1⟩,?_⟩
  refine sI ?_
  refine gd (fun k1=>?_) (fun k1=>?_)
  ·have k1:=of_decide_eq_true k1
   refine sI ?_
   intros;refine gc ?_;refine sI ?_
   refine hbad _ _ _ _ (hb2 ?_) (eE)
   rw[parse2,List.getElem?_eq_none (by dsimp only;omega)]
   rfl
  have k1:=of_decide_eq_false k1
  obtain⟨m,hy⟩:∃ m,l[p]?=some m:=⟨l[p]'(by omega),List.getElem?_eq_getElem _⟩
  have hb3:¬ (m.toNat < 8∧(0≤n0∧n0≤1099511627776)∧(0≤n1∧n1≤15))→parseB 15 l=none:=fun h=>hb2 (by
   rw[parse2,hy]
   simp only[Option.bind_some]
   exact if_neg h)
  refine sI ?_
  refine⟨_,⟨_,rfl,.g h1⟩,?_⟩
  refine sI ?_
  refine⟨_,ldN_blk (.head _) rfl,?_⟩
  refine sI ?_
  refine hA1.x_l1 hy rfl rfl ?_
  rintro a1 ha1 u hu
  cases hu
  refine sI ?_
  refine gd (fun k2=>?_) (fun k2=>?_)
  ·have k2:=of_decide_eq_true k2
   refine sI ?_
   intros;refine gc ?_;refine sI ?_
   exact hbad _ _ _ _ (hb3 fun h=>by omega) (eE)
  have k2:=of_decide_eq_false k2
  refine sI ?_
  refine⟨by omega,?_⟩
  refine⟨_,ldN_blk (o:=0) m3 rfl,?_⟩
  refine sI ?_
  refine gd (fun k3=>?_) (fun k3=>?_)
  ·have k3:=of_decide_eq_true k3
   refine sI ?_
   intros;refine gc ?_;refine sI ?_
   exact hbad _ _ _ _ (hb3 fun h=>by omega) (eE)
  have k3:=of_decide_eq_false k3
  refine sI ?_
  refine⟨by omega,?_⟩
  refine⟨_,ldN_blk (o:=0) m3 rfl,?_⟩
  refine sI ?_
  refine gd (fun k4=>?_) (fun k4=>?_)
  ·have k4:=of_decide_eq_true k4
   refine sI ?_
   intros;refine gc ?_;refine sI ?_
   exact hbad _ _ _ _ (hb3 fun h=>by omega) (eE)
  have k4:=of_decide_eq_false k4
  refine sI ?_
  refine⟨by omega,?_⟩
  refine⟨_,ldN_blk (o:=1) m3 rfl,?_⟩
  refine sI ?_
  refine gd (fun k5=>?_) (fun k5=>?_)
  ·have k5:=of_decide_eq_true k5
   refine sI ?_
   intros;refine gc ?_;refine sI ?_
   exact hbad _ _ _ _ (hb3 fun h=>by omega) (eE)
  have k5:=of_decide_eq_false k5
  refine sI ?_
  refine⟨by omega,?_⟩
  refine⟨_,ldN_blk (o:=1) m3 rfl,?_⟩
  refine sI ?_
  intros;refine gc ?_;refine sI ?_
  refine gb (fun k6=>?_) (fun k6=>?_)
  ·have k6:=of_decide_eq_true k6
   exact hbad _ _ _ _ (hb3 fun h=>by omega) (eE)
  have k6:=of_decide_eq_false k6
  (intros;try refine go_st ?_)
  exact go_l ⟨p,m,⟨hnum,hy,by omega,by omega,by omega,by omega⟩,⟨eE,eE,eE,eE,eE⟩,rfl⟩
 clear hbad hst
 rintro e h ⟨p,m,⟨hnum,hy,hm8,hn0,hn1,hn1'⟩,⟨e1,e3,e4,e6,e5⟩,rfl⟩
 have hpl:=(List.getElem?_eq_some_iff.1 hy).1
 have hb3:parseB 15 l=parse3 l [n0,n1,n2,n3,n4,n5,n6] m (getV l ((p:Int)+1)):=by
  rw[parseB,hnum]
  simp only[Option.bind_some]
  rw[parse2,hy]
  simp only[Option.bind_some]
  exact if_pos ⟨hm8,hn0,hn1,hn1'⟩
 refine go_keep [1,3,4,5,6] ?_
 refine sJ5 @e1 @e3 @e4 @e5 @e6 ?_
 have wp:=inc_i p l.length hpl (by unfold maxLen;omega)
 have wl:IntKind.i64.wrap (n0+n1)=n0+n1:=by rw[w64_id] <;> omega
 intros;refine gr 60 64 ?_;refine sJ c198r12.eq_1 ?_
 refine⟨_,⟨_,rfl,.g h1⟩,?_⟩
 refine sI ?_
 refine⟨_,ldN_blk (.head _) rfl,?_⟩
 refine sI ?_
 refine hA1.x_l1 hy rfl rfl ?_
 rintro a1 ha1 u hu
 cases hu
 refine sI ?_
 intros;refine gr 64 66 ?_;refine sJ c198r13.eq_1 ?_
 refine⟨_,ldN_blk (.head _) rfl,?_⟩
 refine sJ @wp ?_
 refine stX_blk [] [_,_,_] rfl (by simp) ⟨rfl,rfl⟩ ?_
 refine sI ?_
 intros;refine gr 66 90 ?_;refine sJ c198r14.eq_1 ?_
 refine⟨by omega,?_⟩
 refine⟨_,ldN_blk (o:=0) m3 rfl,?_⟩
 refine sI ?_
 refine⟨by omega,?_⟩
 refine⟨_,ldN_blk (o:=0) m3 rfl,?_⟩
 refine sI ?_
 refine⟨by omega,?_⟩
 refine⟨_,ldN_blk (o:=1) m3 rfl,?_⟩
 refine sJ @wl ?_
 refine⟨by omega,?_⟩
 refine⟨_,ldN_blk (o:=2) m3 rfl,?_⟩
 refine sI ?_
 refine⟨by omega,?_⟩
 refine⟨_,ldN_blk (o:=3) m3 rfl,?_⟩
 refine sI ?_
 refine⟨by omega,?_⟩
 refine⟨_,ldN_blk (o:=4) m3 rfl,?_⟩
 refine sI ?_
 refine⟨by omega,?_⟩
 refine⟨_,ldN_blk (o:=5) m3 rfl,?_⟩
 refine sI ?_
 refine⟨by omega,?_⟩
 refine⟨_,ldN_blk (o:=6) m3 rfl,?_⟩
 have htx:decide ((if 4≤m.toNat then(4:Int)else 0)≠0)=decide (4≤m.toNat):=by split <;> simp_all
 have hct:IntKind.i64.wrap ((m.toNat % 4:Nat):Int)=((m.toNat % 4:Nat):Int):=by rw[w64_id] <;> omega
 have hmk:∀ rs,mkB [n0,n1,n2,n3,n4,n5,n6] m rs=⟨n0,n0+n1,n2,n3,n4,n5,n6,decide (4≤m.toNat),((m.toNat % 4:Nat):Int),rs⟩:=fun _=>rfl
 have hcti:I64 ((m.toNat % 4:Nat):Int):=by unfold I64;omega
 generalize decide (4≤m.toNat)=tx at htx hmk
 have han:=andNot_4 hm8
 generalize ((m.toNat % 4:Nat):Int)=ct at hct hmk hcti han
 (try simp -implicitDefEqProofs only[kR_e,kQ_e,push_cast,Nat.reduceBEq,Nat.reduceAdd,Nat.reduceSub,Nat.reduceMul,Nat.reduceLT,Nat.reduceLeDiff,Nat.reduceEqDiff,reduceIte,Bool.not_true,Bool.not_false,true_and,and_true,Option.map_some,Option.bind_some,Int.toNat_natCast,and_4 hm8,han,htx,hct])
 have m2':∀ {x y z u:Kx.Item} {L:List Kx.Item},y∈x :: y :: z :: u :: L:=.tail _ (.head _)
 have hi7:I64 n0∧I64 (n0+n1)∧I64 n2∧I64 n3∧I64 n4∧I64 n5∧I64 n6:=⟨hni _ (by simp),by unfold I64;omega,hni _ (by simp),hni _ (by simp),hni _ (by simp),hni _ (by simp),hni _ (by simp)⟩
 -- how many records
 intros;refine gr 90 92 ?_;refine sJ c198r15.eq_1 ?_
 refine .inl ⟨_,_,rfl,?_⟩
 refine(number_ok l ((p:Int)+1) true b1 b3 b4 _ G1 hl1 h1 _ []).mono ?_
 rintro r h' ⟨G',L',rfl,-,rfl,rfl,rfl⟩
 have hvok:=@getV_ok l ((p:Int)+1)
 generalize getV l ((p:Int)+1)=v at hb3 hvok
 refine sI ?_
 have hbad:∀ (fr:List Td) (e:Env) (a:Int) (ok:Bool),parseB 15 l=none→e 3=.pointer (some ⟨b3,0,none⟩)→go none Tryz.prog 155 v198.1 v198.2 (retQ o198 fun v h=>ParseR 15 l h.G v) (Td.s ((SC.reg false c198r17).seq .ret) :: fr) e ⟨G1,[.blk b4 [.int .i64 a],.blk b3 [.bool ok],.blk b6 (numC [n0,n1,n2,n3,n4,n5,n6]),.reg 2 [.int .i64 n0,.int .i64 (n0+n1),.int .i64 n2,.int .i64 n3,.int .i64 n4,.int .i64 n5,.int .i64 n6,.bool tx,.int .i64 ct,.slice none 0 0]],[]⟩:=fun fr e a ok hx e3=>by
  refine go_keep [3] ?_
  refine sJ @e3 ?_
  intros;refine gr 102 103 ?_;refine sJ c198r17.eq_1 ?_
  refine stX_blk [_] [_,_] rfl (by simp) ⟨rfl,rfl⟩ ?_
  refine sI ?_
  (intros;try refine go_st ?_)
  refine go_ghost (ghost_sub (L':=[.blk b3 [.bool false],.reg 2 [.int .i64 0,.int .i64 0,.int .i64 0,.int .i64 0,.int .i64 0,.int .i64 0,.int .i64 0,.bool false,.int .i64 0,.slice none 0 0]]) (.cons _ (.cons_cons _ (.cons _ (List.Sublist.refl _))))) ?_
  refine go_ret (retQ_v (out:=[.agg #[.int .i64 0,.int .i64 0,.int .i64 0,.int .i64 0,.int .i64 0,.int .i64 0,.int .i64 0,.bool false,.int .i64 0,.slice none 0 0],.bool false]) ?_ ?_)
  ·simp[o198,resV,Kx.getR,getB,blkO,ldC,Env.set]
  ·exact⟨_,_,false,rfl,BE.zero,hx⟩
 intros;try refine go_seq ?_
 refine go_cut (fun e h=>(v.2.2=0∧0≤v.1∧v.1≤16)∧(e 1=.pointer (some ⟨b1,0,none⟩)∧e 3=.pointer (some ⟨b3,0,none⟩)∧e 4=.pointer (some ⟨b4,0,none⟩)∧e 5=.func (.func 212) #[] #[.pointer (some ⟨b1,0,none⟩),.pointer (some ⟨b4,0,none⟩),.pointer (some ⟨b3,0,none⟩)])∧e 9=.int .i64 v.1∧h=⟨G1,[.blk b4 [.int .i64 v.2.1],.blk b3 [.bool true],.blk b6 (numC [n0,n1,n2,n3,n4,n5,n6]),.reg 2 [.int .i64 n0,.int .i64 (n0+n1),.int .i64 n2,.int .i64 n3,.int .i64 n4,.int .i64 n5,.int .i64 n6,.bool tx,.int .i64 ct,.slice none 0 0]],[]⟩) ?_ ?_
 ·by_cases hv0:v.2.2=0
  ·have hbn:¬ (0≤v.1∧v.1≤16)→parseB 15 l=none:=fun h=>by rw[hb3,parse3,if_neg fun hc=>h hc.2]
   rw[if_pos hv0,if_pos hv0,if_pos hv0]
   intros;refine gr 92 101 ?_;refine sJ c198r16.eq_1 ?_
   refine⟨_,ldN_blk m2' rfl,?_⟩
   refine sI ?_
   refine gd (fun k1=>?_) (fun k1=>?_)
   ·have k1:=of_decide_eq_true k1
    refine sI ?_
    intros;refine gc ?_;refine sI ?_
    exact hbad _ _ _ _ (hbn fun h=>by omega) (eE)
   have k1:=of_decide_eq_false k1
   refine sI ?_
   intros;refine gc ?_;refine sI ?_
   refine gb (fun k2=>?_) (fun k2=>?_)
   ·have k2:=of_decide_eq_true k2
    exact hbad _ _ _ _ (hbn fun h=>by omega) (eE)
   have k2:=of_decide_eq_false k2
   (intros;try refine go_st ?_)
   exact go_l ⟨⟨hv0,by omega,by omega⟩,⟨eE,eE,eE,eE⟩,eE,rfl⟩
  ·rw[if_neg hv0,if_neg hv0,if_neg hv0]
   intros;refine gr 92 101 ?_;refine sJ c198r16.eq_1 ?_
   refine⟨_,ldN_blk m2' rfl,?_⟩
   refine sI ?_
   intros;refine gc ?_;refine sI ?_
   exact hbad _ _ _ _ (by rw[hb3,parse3,if_neg fun hc=>hv0 hc.1]) (eE)
 clear hbad
 rintro e h ⟨⟨hv0,hv1,hv2⟩,⟨e1,e3,e4,e5⟩,e9,rfl⟩
 obtain⟨many,hmany⟩:∃ n:Nat,v.1=n:=⟨v.1.toNat,by omega⟩
 obtain⟨pv,-,hv21,-,hpv,-⟩:=hvok hv0
 rw[hmany]at e9
 have hpn:0≤v.2.1:=by omega
 have hb4:parseB 15 l=parse4 l [n0,n1,n2,n3,n4,n5,n6] m many (if 0 < many then getV l v.2.1 else(0,v.2.1,0)):=by
  rw[hb3,parse3,if_pos ⟨hv0,hv1,hv2⟩,hmany]
  simp only[Int.toNat_natCast]
  congr 1
  by_cases h:0 < many
  ·rw[if_pos h,if_pos (by omega)]
  ·rw[if_neg h,if_neg (by omega)]
 refine go_keep [1,3,4,5,9] ?_
 refine sJ5 @e1 @e3 @e4 @e5 @e9 ?_
 have hmany16:many≤16:=by omega
 generalize v.2.1=p2 at hb4 hpn
 clear hb3 hvok hv21 hpv
 intros;refine gr 0 0 ?_;refine sJ c198r18.eq_1 ?_
 intros;try refine go_seq ?_
 refine go_cut (fun e h=>∃ (s:Int × Int × Int),(s=(if 0 < many then getV l p2 else(0,p2,0)))∧(e 1=.pointer (some ⟨b1,0,none⟩)∧e 3=.pointer (some ⟨b3,0,none⟩)∧e 4=.pointer (some ⟨b4,0,none⟩)∧e 5=.func (.func 212) #[] #[.pointer (some ⟨b1,0,none⟩),.pointer (some ⟨b4,0,none⟩),.pointer (some ⟨b3,0,none⟩)])∧e 9=.int .i64 (many:Int)∧e 10=.int .i64 (if s.2.2=0 then s.1 else 0)∧h=⟨G1,[.blk b4 [.int .i64 (if s.2.2=0 then s.2.1 else p2)],.blk b3 [.bool (if s.2.2=0 then true else false)],.blk b6 (numC [n0,n1,n2,n3,n4,n5,n6]),.reg 2 [.int .i64 n0,.int .i64 (n0+n1),.int .i64 n2,.int .i64 n3,.int .i64 n4,.int .i64 n5,.int .i64 n6,.bool tx,.int .i64 ct,.slice none 0 0]],[]⟩) ?_ ?_
 ·intros;refine gr 103 104 ?_;refine sJ c198r19.eq_1 ?_
  intros;refine gc ?_;refine sI ?_
  refine gb (fun k1=>?_) (fun k1=>?_)
  ·have k1:=of_decide_eq_true k1
   intros;refine gr 105 107 ?_;refine sJ c198r20.eq_1 ?_
   refine .inl ⟨_,_,rfl,?_⟩
   refine(number_ok l p2 true b1 b3 b4 _ G1 hl1 h1 _ []).mono ?_
   rintro r h' ⟨G',L',rfl,-,rfl,rfl,rfl⟩
   refine sI ?_
   (intros;try refine go_st ?_)
   exact go_l ⟨getV l p2,by rw[if_pos (by omega)],⟨eE,eE,eE,eE⟩,eE,eE,rfl⟩
  ·have k1:=of_decide_eq_false k1
   (intros;try refine go_st ?_)
   exact go_l ⟨(0,p2,0),by rw[if_neg (by omega)],⟨eE,eE,eE,eE⟩,eE,eE,rfl⟩
 rintro e h ⟨s,hs,⟨e1,e3,e4,e5⟩,e9,e10,rfl⟩
 rw[← hs]at hb4
 have hsn:0≤s.2.1:=by
  rw[hs]
  split
  ·exact getV_nn _ _
  ·exact hpn
 clear hs
 refine go_keep [1,3,4,9,10] ?_
 refine sJ5 @e1 @e3 @e4 @e9 @e10 ?_
 have hb5:parseB 15 l=if s.2.2=0 then(recsG l n0 s.1 s.2.1.toNat many).bind fun r=>if r.2=l.length∧stOk r.1 s.1=true then some (mkB [n0,n1,n2,n3,n4,n5,n6] m r.1)else none else none:=hb4
 clear hb4
 obtain⟨st,hst⟩:∃ st,st=(if s.2.2=0 then s.1 else 0):=⟨_,rfl⟩
 rw[← hst]
 intros;refine gr 0 0 ?_;refine sJ c198r21.eq_1 ?_
 intros
 refine go_ghost (ghost_sub (L':=[.blk b4 [.int .i64 (if s.2.2=0 then s.2.1 else p2)],.blk b3 [.bool (if s.2.2=0 then true else false)],.reg 2 [.int .i64 n0,.int .i64 (n0+n1),.int .i64 n2,.int .i64 n3,.int .i64 n4,.int .i64 n5,.int .i64 n6,.bool tx,.int .i64 ct,.slice none 0 0]]) (.cons_cons _ (.cons_cons _ (.cons _ (List.Sublist.refl _))))) ?_
 refine go_ghost (ghost_nil none 103 5) ?_
 refine go_cut (fun e h=>∃ (rs:List Rec) (a:Int) (ok:Bool) (u:Value) (zc:List Value) (G':Nat→Option Obj),((ok=true∧s.2.2=0∧recsG l n0 s.1 s.2.1.toNat many=some (rs,a.toNat)∧0≤a∧stOk rs s.1=true)∨(ok=false∧parseB 15 l=none))∧(rs.length≤16∧Gle G1 G'∧Cells RR 5 rs zc) ∧
  (e 1=.pointer (some ⟨b1,0,none⟩)∧e 3=.pointer (some ⟨b3,0,none⟩)∧e 4=.pointer (some ⟨b4,0,none⟩))∧h=⟨G',[.row u 103 5 rs.length zc,.blk b4 [.int .i64 a],.blk b3 [.bool ok],.reg 2 [.int .i64 n0,.int .i64 (n0+n1),.int .i64 n2,.int .i64 n3,.int .i64 n4,.int .i64 n5,.int .i64 n6,.bool tx,.int .i64 ct,u]],[]⟩) ?_ ?_
 ·(intros;try refine go_st ?_)
  refine go_loop (fun e h=>∃ (k:Nat) (rs:List Rec) (a:Int) (ok:Bool) (u:Value) (zc:List Value) (G':Nat→Option Obj),(k≤many∧rs.length=k∧Gle G1 G'∧Cells RR 5 rs zc∧((ok=true∧s.2.2=0∧recsG l n0 s.1 s.2.1.toNat k=some (rs,a.toNat)∧0≤a∧stOk rs s.1=true)∨(ok=false∧parseB 15 l=none))) ∧
   e 1=.pointer (some ⟨b1,0,none⟩)∧e 3=.pointer (some ⟨b3,0,none⟩)∧e 4=.pointer (some ⟨b4,0,none⟩)∧e 9=.int .i64 (many:Int)∧e 10=.int .i64 st∧e 11=.int .i64 k∧h.G=G'∧h.D=[]∧[.row u 103 5 rs.length zc,.blk b4 [.int .i64 a],.blk b3 [.bool ok],.reg 2 [.int .i64 n0,.int .i64 (n0+n1),.int .i64 n2,.int .i64 n3,.int .i64 n4,.int .i64 n5,.int .i64 n6,.bool tx,.int .i64 ct,u]].Sublist h.L) (fun e h=>many - iv (e 11)) ?_ ?_
  ·refine⟨0,[],_,_,_,[],G1,⟨Nat.zero_le _,rfl,.refl _,.nil,?_⟩,eE,eE,eE,eE,eE,eE,rfl,rfl,List.Sublist.refl _⟩
   by_cases h:s.2.2=0
   ·rw[if_pos h,if_pos h]
    exact .inl ⟨rfl,h,rfl,hsn,rfl⟩
   ·rw[if_neg h,if_neg h]
    exact .inr ⟨rfl,by rw[hb5,if_neg h]⟩
  ·rintro e ⟨G',L,D⟩ ⟨k,rs,a,ok,u,zc,G2,⟨hk,hrl,hgg,hcs,hor⟩,e1,e3,e4,e9,e10,e11,hG,hD,hL⟩
   dsimp only at hG hD hL
   subst hG hD
   refine go_ghost (ghost_sub hL) ?_
   refine go_keep [1,3,4,9,10,11] ?_
   refine sJ6 @e1 @e3 @e4 @e9 @e10 @e11 ?_
   intros;refine gr 107 112 ?_;refine sJ c198r22.eq_1 ?_
   refine gd (fun k1=>?_) (fun k1=>?_)
   rotate_left
   ·have k1:k=many:=by have:=of_decide_eq_false k1;omega
    subst k1
    refine sI ?_
    intros;refine gc ?_;refine sI ?_
    refine go_exit ?_
    refine sI ?_
    exact go_l ⟨rs,a,ok,u,zc,G',hor,⟨by omega,hgg,hcs⟩,⟨eE,eE,eE⟩,rfl⟩
   have k1:k < many:=by have:=of_decide_eq_true k1;omega
   refine sI ?_
   refine⟨_,ldN_blk (.tail _ (.tail _ (.head _))) rfl,?_⟩
   refine sI ?_
   intros;refine gc ?_;refine sI ?_
   refine gb (fun k2=>?_) (fun k2=>?_)
   rotate_left
   ·rcases hor with⟨h,-⟩ | ⟨_,h⟩
    ·rw[h]at k2;cases k2
    refine go_exit ?_
    refine sI ?_
    exact go_l ⟨rs,a,ok,u,zc,G',.inr ⟨k2,h⟩,⟨by omega,hgg,hcs⟩,⟨eE,eE,eE⟩,rfl⟩
   subst k2
   rcases hor with⟨-,hs0,hrg,ha,hso⟩ | ⟨h,_⟩
   rotate_left
   ·cases h
   rw[if_pos hs0]at hst
   subst hst
   have hw:=inc_i k many k1 (by unfold maxLen;omega)
   obtain⟨pa,rfl⟩:∃ n:Nat,a=n:=⟨a.toNat,by omega⟩
   rw[Int.toNat_natCast]at hrg
   have hrec:=RGet_ok l pa n0 s.1 _ G' (SB.le hl1 hgg)
   have hrr:=getR_RR l pa n0 s.1
   have hnxt:recsG l n0 s.1 s.2.1.toNat (k+1)=if (getR l pa n0 s.1).2.2=0 then some (rs++[(getR l pa n0 s.1).1],(getR l pa n0 s.1).2.1.toNat)else none:=by
    rw[recsG,hrg]
    rfl
   have hnn:=getR_nn l pa n0 s.1
   generalize getR l pa n0 s.1=q at hrec hrr hnxt hnn
   obtain⟨r,nx,er⟩:=q
   dsimp only at hrr hnxt hrec hnn
   have hrr0:=hrr.1
   unfold cellR at hrec hrr
   intros;refine gN ?_
   intros;refine gr 115 125 ?_;refine sJ c198r23.eq_1 ?_
   refine⟨_,⟨_,rfl,.g (cellG_le hgg h1)⟩,?_⟩
   refine sI ?_
   refine⟨_,ldN_blk (.tail _ (.head _)) rfl,?_⟩
   refine sI ?_
   refine(hrec _ _).mono ?_
   rintro r h' ⟨rfl,rfl⟩
   refine sI ?_
   intros;try refine go_seq ?_
   refine go_cut (fun e h=>(e 1=.pointer (some ⟨b1,0,none⟩)∧e 3=.pointer (some ⟨b3,0,none⟩)∧e 4=.pointer (some ⟨b4,0,none⟩))∧(e 9=.int .i64 (many:Int)∧e 10=.int .i64 s.1∧e 11=.int .i64 k∧e 13=.int .i64 nx)∧h=⟨G',[.reg 12 [.int .i64 r.off,.string r.key,.string r.val,.bool r.dead,.int .i64 r.stamp],.row u 103 5 rs.length zc,.blk b4 [.int .i64 (pa:Int)],.blk b3 [.bool (decide (er=0) && (decide (0 < k) || decide (r.stamp=s.1)))],.reg 2 [.int .i64 n0,.int .i64 (n0+n1),.int .i64 n2,.int .i64 n3,.int .i64 n4,.int .i64 n5,.int .i64 n6,.bool tx,.int .i64 ct,u]],[]⟩) ?_ ?_
   ·intros;refine gr 125 140 ?_;refine sJ c198r24.eq_1 ?_
    refine⟨_,ldN_blk (.tail _ (.tail _ (.tail _ (.head _)))) rfl,?_⟩
    refine sI ?_
    refine gd (fun k2=>?_) (fun k2=>?_)
    ·have k3:=of_decide_eq_true k2
     refine sI ?_
     refine gd (fun k4=>?_) (fun k4=>?_)
     ·have k5:=of_decide_eq_true k4
      refine sI ?_
      refine stX_blk [_,_,_] [_] rfl (by simp) ⟨rfl,rfl⟩ ?_
      refine sI ?_
      (intros;try refine go_st ?_)
      refine go_l ⟨⟨eE,eE,eE⟩,⟨eE,eE,eE,eE⟩,?_⟩
      rw[decide_eq_true k3,decide_eq_true (show 0 < k by omega)]
      rfl
     ·have k5:=of_decide_eq_false k4
      refine sI ?_
      refine stX_blk [_,_,_] [_] rfl (by simp) ⟨rfl,rfl⟩ ?_
      refine sI ?_
      (intros;try refine go_st ?_)
      refine go_l ⟨⟨eE,eE,eE⟩,⟨eE,eE,eE,eE⟩,?_⟩
      rw[decide_eq_true k3,decide_eq_false (show ¬ 0 < k by omega)]
      rfl
    ·have k3:=of_decide_eq_false k2
     refine sI ?_
     refine stX_blk [_,_,_] [_] rfl (by simp) ⟨rfl,rfl⟩ ?_
     refine sI ?_
     (intros;try refine go_st ?_)
     refine go_l ⟨⟨eE,eE,eE⟩,⟨eE,eE,eE,eE⟩,?_⟩
     rw[decide_eq_false k3]
     rfl
   rintro e h ⟨⟨e1,e3,e4⟩,⟨e9,e10,e11,e13⟩,rfl⟩
   refine go_keep [1,3,4,9,10,11,13] ?_
   refine sJ7 @e1 @e3 @e4 @e9 @e10 @e11 @e13 ?_
   have hok:∀ (j:Nat),j=k→((decide (er=0) && (decide (0 < k) || decide (r.stamp=s.1)))=true∧s.2.2=0∧recsG l n0 s.1 s.2.1.toNat (k+1)=some (rs++[r],nx.toNat)∧0≤nx∧stOk (rs++[r]) s.1=true)∨((decide (er=0) && (decide (0 < k) || decide (r.stamp=s.1)))=false∧parseB 15 l=none):=fun j _=>by
    by_cases h0:er=0
    ·rw[if_pos h0]at hnxt
     by_cases h1:0 < k
     ·refine .inl ⟨by simp[h0,h1],hs0,hnxt,hnn,?_⟩
      match rs,hrl,hso with
      | x :: xs,_,hso=>exact hso
      | [],hrl,_=>simp at hrl;omega
     ·have hk0:k=0:=by omega
      have hrs:rs=[]:=List.eq_nil_of_length_eq_zero (by omega)
      subst hrs
      by_cases h2:r.stamp=s.1
      ·refine .inl ⟨by simp[h0,h2],hs0,hnxt,hnn,by simp[stOk,h2]⟩
      ·refine .inr ⟨by simp[h0,h1,h2],?_⟩
       rw[hb5,if_pos hs0]
       cases hrm:recsG l n0 s.1 s.2.1.toNat many with
       | none=>rfl
       | some q =>
        simp only[Option.bind_some]
        have hpre:=recsG_pre hrm (k+1) (by omega)
        rw[hnxt]at hpre
        obtain⟨q2,hq,t,ht⟩:=hpre
        cases hq
        refine if_neg fun hc=>?_
        rw[ht]at hc
        have:=hc.2
        simp[stOk,h2]at this
    ·rw[if_neg h0]at hnxt
     refine .inr ⟨by simp[h0],?_⟩
     have:=recsG_none (many - (k+1)) (k+1) hnxt
     rw[show k+1+(many - (k+1))=many by omega]at this
     rw[hb5,if_pos hs0,this]
     rfl
   have hok:=hok k rfl
   generalize (decide (er=0) && (decide (0 < k) || decide (r.stamp=s.1)))=ok at hok ⊢
   intros;refine gr 140 141 ?_;refine sJ c198r25.eq_1 ?_
   refine stX_blk [_,_] [_,_] rfl (by simp) ⟨rfl,rfl⟩ ?_
   refine sI ?_
   intros;refine gr 142 146 ?_;refine sJ c198r26.eq_1 ?_
   intro bk hbk
   refine app1 (L1:=[_]) (L2:=[_,_,_]) (E:=RR) (x:=r) rfl hrr rfl (by simp[Value.oneCell']) hcs (by omega) (by omega) fun A' c' zc' hzc=>?_
   refine sI ?_
   intros;refine gr 113 115 ?_;refine sJ2 c198r27.eq_1 @hw ?_
   (intros;try refine go_st ?_)
   refine go_l ⟨⟨k+1,rs++[r],nx,ok,_,zc',G',⟨by omega,by simp[hrl],hgg,hzc,hok⟩,eE,eE,eE,eE,eE,eE,rfl,rfl,.cons _ (.cons _ (List.Sublist.refl _))⟩,?_⟩
   refine sI ?_
   omega
 rintro e h ⟨rs,a,ok,u,zc,G',hor,⟨hrl,hgg,hcs⟩,⟨e1,e3,e4⟩,rfl⟩
 refine go_keep [1,3,4] ?_
 refine sJ3 @e1 @e3 @e4 ?_
 intros
 refine go_gx (gx_slv_at [] _ (by decide) hcs) ?_
 rintro h' ⟨G2,rfl,hg2,B,d,rfl,hd1,hd2,hB⟩
 refine go_ghost (ghost_perm (.swap _ _ _)) ?_
 have h12:=cellG_le (hgg.trans hg2) h1
 have hfin:∀ (t:Bool),(if t=true then parseB 15 l=some ⟨n0,n0+n1,n2,n3,n4,n5,n6,tx,ct,rs⟩else parseB 15 l=none)→ParseR 15 l G2 (.tuple #[.agg #[.int .i64 n0,.int .i64 (n0+n1),.int .i64 n2,.int .i64 n3,.int .i64 n4,.int .i64 n5,.int .i64 n6,.bool tx,.int .i64 ct,.slice B rs.length d],.bool t]):=fun t ht =>
  ⟨⟨n0,n0+n1,n2,n3,n4,n5,n6,tx,ct,rs⟩,_,t,rfl,⟨B,d,rfl,⟨hd1,hd2,hB⟩,hi7.1,hi7.2.1,hi7.2.2.1,hi7.2.2.2.1,hi7.2.2.2.2.1,hi7.2.2.2.2.2.1,hi7.2.2.2.2.2.2,hcti⟩,ht⟩
 rcases hor with⟨rfl,hs0,hrg,ha,hso⟩ | ⟨rfl,hno⟩
 ·(intros;try refine go_st ?_);refine go_w _ (List.Sublist.refl _) (by decide) ?_;refine sJ c198r28.eq_1 ?_
  refine⟨_,ldN_blk (.head _) rfl,?_⟩
  refine sI ?_
  refine⟨_,ldN_blk (.tail _ (.head _)) rfl,?_⟩
  refine sI ?_
  refine⟨_,⟨_,rfl,.g h12⟩,?_⟩
  refine sI ?_
  refine stX_blk [] [_,_] rfl (by simp) ⟨rfl,rfl⟩ ?_
  refine sI ?_
  (intros;try refine go_st ?_)
  refine go_ret (retQ_v (out:=[.agg #[.int .i64 n0,.int .i64 (n0+n1),.int .i64 n2,.int .i64 n3,.int .i64 n4,.int .i64 n5,.int .i64 n6,.bool tx,.int .i64 ct,.slice B rs.length d],.bool (decide (a=(l.length:Int)))]) ?_ ?_)
  ·simp[o198,resV,Kx.getR,getB,blkO,ldC,Env.set]
  ·refine hfin _ ?_
   rw[hb5,if_pos hs0,hrg]
   simp only[Option.bind_some]
   by_cases h:a=(l.length:Int)
   ·rw[if_pos (decide_eq_true h),if_pos ⟨by omega,hso⟩,hmk]
   ·rw[if_neg (by simpa using h),if_neg (fun hc=>h (by omega))]
 ·(intros;try refine go_st ?_);refine go_w _ (List.Sublist.refl _) (by decide) ?_;refine sJ c198r28.eq_1 ?_
  refine⟨_,ldN_blk (.head _) rfl,?_⟩
  refine sI ?_
  refine stX_blk [] [_,_] rfl (by simp) ⟨rfl,rfl⟩ ?_
  refine sI ?_
  (intros;try refine go_st ?_)
  refine go_ret (retQ_v (out:=[.agg #[.int .i64 n0,.int .i64 (n0+n1),.int .i64 n2,.int .i64 n3,.int .i64 n4,.int .i64 n5,.int .i64 n6,.bool tx,.int .i64 ct,.slice B rs.length d],.bool false]) ?_ ?_)
  ·simp[o198,resV,Kx.getR,getB,blkO,ldC,Env.set]
  ·exact hfin false hno
theorem F178:Fun Tryz.prog 178 68 v178 c178 o178:=Fun.mkA Tryz.func178 Tryz.ntmps178
def noneB:Batch:=⟨0,0,0,0,0,0,0,false,0,[]⟩
def chkP(w:Int)(l:List UInt8):Option Batch:=(parseB w l).bind fun x=>if errB x=0 then some x else none
def getB(l:List UInt8)(a:Int):Batch × Int × Int :=
 if (getN l a 4).2=0 then
  if 5≤(getN l a 4).1∧(getN l a 4).1≤2044 then
   if (getN l a 4).1≤(l.drop (a.toNat+4)).length then
    if (openB ((l.drop (a.toNat+4)).take (getN l a 4).1)).2=0 then
     match chkP 15 (openB ((l.drop (a.toNat+4)).take (getN l a 4).1)).1 with
     | none=>(noneB,0,11)
     | some x=>(x,((a.toNat+4+(getN l a 4).1:Nat):Int),0)
    else(noneB,0,(openB ((l.drop (a.toNat+4)).take (getN l a 4).1)).2)
   else(noneB,0,10)
  else(noneB,0,11)
 else(noneB,0,(getN l a 4).2)
def GetBR(l:List UInt8)(a:Int)(G:Nat→Option Obj)(r:Value):Prop:=∃ cs,r=.tuple #[.agg cs.toArray,.int .i64 (getB l a).2.1,.int .i64 (getB l a).2.2]∧BE G (getB l a).1 cs
theorem getN_ok{l:List UInt8}{a:Int}{k:Nat}(h:(getN l a k).2=0):0≤a∧a.toNat+k≤l.length∨(k=0):=by
 unfold getN at h
 split at h
 ·cases h
 ·split at h
  ·cases h
  ·rename_i h1 h2
   by_cases hk:k=0
   ·exact .inr hk
   ·left
    simp at h2
    omega
theorem getN_lt{l:List UInt8}{a:Int}:(getN l a 4).1 < 4294967296:=by
 unfold getN
 split
 ·decide
 ·split
  ·decide
  ·have:=numB_lt ((l.drop a.toNat).take 4)
   have h2:256 ^ ((l.drop a.toNat).take 4).length≤256 ^ 4:=Nat.pow_le_pow_right (by decide) (by simp;omega)
   omega
theorem openB_len(l:List UInt8):(openB l).1.length≤l.length:=by
 unfold openB
 split
 ·simp
 ·split
  ·simp
  ·simp
theorem chkP_some{w:Int}{l:List UInt8}{x:Batch}(h:parseB w l=some x)(h0:errB x=0):chkP w l=some x:=by rw[chkP,h];exact if_pos h0
theorem chkP_bad{w:Int}{l:List UInt8}{x:Batch}(h:parseB w l=some x)(h0:¬ errB x=0):chkP w l=none:=by rw[chkP,h];exact if_neg h0
theorem chkP_none{w:Int}{l:List UInt8}(h:parseB w l=none):chkP w l=none:=by rw[chkP,h];rfl
set_option maxHeartbeats 2000000 in
theorem BGet_ok(l:List UInt8)(a:Int)(v:Value)(G:Nat→Option Obj)(hl:SB G v l)(hb:l.length≤1000000):FnD Tryz.prog 178 #[v,.int .i64 a] G (GetBR l a):=by
 have hl0:=hl
 obtain⟨A,c,rfl,hc,hm,hA⟩:=hl
 unfold maxLen at hm
 refine F178.fnD (by simp) (go_of ?_)
 unfold c178
 have hng:=NGet_ok l a 4 (by omega) _ G hl0
 have hnk:=@getN_ok l a 4
 have hnl:=@getN_lt l a
 intros;refine gr 0 0 ?_;refine sJ c178r0.eq_1 ?_
 intros;refine gr 11 17 ?_;refine sJ c178r1.eq_1 ?_
 refine(hng _ _).mono ?_;rintro _ _ ⟨rfl,rfl⟩;refine sI ?_
 intros;refine gr 17 18 ?_;refine sJ c178r2.eq_1 ?_
 intros;refine gc ?_;refine sI ?_
 refine gb (fun k1=>?_) (fun k1=>?_)
 ·have k1:=of_decide_eq_true k1
  intros;refine gr 19 21 ?_;refine sJ c178r3.eq_1 ?_
  intros;refine rV ?_;simp only[push_cast,Nat.reduceBEq]
  have hg:getB l a=(noneB,0,(getN l a 4).2):=by rw[getB,if_neg k1]
  exact⟨_,by rw[hg],by rw[hg];exact BE.zero⟩
 have k1:(getN l a 4).2=0:=by simpa using k1
 obtain⟨ha,hal⟩:=(hnk k1).resolve_right (by decide)
 obtain⟨a,rfl⟩:∃ n:Nat,a=n:=⟨a.toNat,by omega⟩
 rw[Int.toNat_natCast]at hal
 have hg:getB l (a:Int)=if 5≤(getN l a 4).1∧(getN l a 4).1≤2044 then
   if (getN l a 4).1≤(l.drop (a+4)).length then
    if (openB ((l.drop (a+4)).take (getN l a 4).1)).2=0 then
     match chkP 15 (openB ((l.drop (a+4)).take (getN l a 4).1)).1 with
     | none=>(noneB,(0:Int),(11:Int))
     | some x=>(x,((a+4+(getN l a 4).1:Nat):Int),(0:Int))
    else(noneB,(0:Int),(openB ((l.drop (a+4)).take (getN l a 4).1)).2)
   else(noneB,(0:Int),(10:Int))
  else(noneB,(0:Int),(11:Int)):=by rw[getB,if_pos k1];rfl
 generalize (getN l a 4).1=n at hg hnl
 have hbad:¬ (5≤n∧n≤2044)→∀ (fr:List Td) (e:Env),go none Tryz.prog 68 v178.1 v178.2 (retQ o178 fun v h=>GetBR l a h.G v) (Td.s ((SC.reg false c178r5).seq .ret) :: fr) e ⟨G,[.reg 4 [.int .i64 0,.int .i64 0,.int .i64 0,.int .i64 0,.int .i64 0,.int .i64 0,.int .i64 0,.bool false,.int .i64 0,.slice none 0 0]],[]⟩:=fun hx fr e=>by
  rw[if_neg hx]at hg
  intros;refine gr 27 28 ?_;refine sJ c178r5.eq_1 ?_
  intros;refine rV ?_;simp only[push_cast,Nat.reduceBEq]
  exact⟨_,by rw[hg],by rw[hg];exact BE.zero⟩
 intros;refine gN ?_
 intros;refine gr 21 26 ?_;refine sJ c178r4.eq_1 ?_
 refine gd (fun k2=>?_) (fun k2=>?_)
 ·have k2:=of_decide_eq_true k2
  refine sI ?_
  intros;refine gc ?_;refine sI ?_
  exact hbad (by omega) _ _
 have k2:=of_decide_eq_false k2
 refine sI ?_
 intros;refine gc ?_;refine sI ?_
 refine gb (fun k3=>?_) (fun k3=>?_)
 ·have k3:=of_decide_eq_true k3
  exact hbad (by omega) _ _
 have k3:=of_decide_eq_false k3
 clear hbad
 rw[if_pos ⟨by omega,by omega⟩]at hg
 have w4:IntKind.i64.wrap ((a:Int)+4)=((a+4:Nat):Int):=by rw[w64_id] <;> omega
 intros;refine gN ?_
 intros;refine gr 28 32 ?_;refine sJ2 c178r6.eq_1 @w4 ?_
 refine slY_v (a+4) l.length c hl0 rfl rfl rfl (by omega) fun B hB=>?_
 rw[List.take_length]at hB ⊢
 have hrl:(l.drop (a+4)).length=l.length - (a+4):=by simp
 generalize l.drop (a+4)=rest at hB hg hrl ⊢
 refine sI ?_
 have hcv:IntKind.u64.wrap (rest.length:Int)=(rest.length:Int):=wrap64 (by omega)
 intros;refine gr 32 36 ?_;refine sJ2 c178r7.eq_1 @hcv ?_
 intros;refine gc ?_;refine sI ?_
 refine gb (fun k4=>?_) (fun k4=>?_)
 ·have k4:=of_decide_eq_true k4
  rw[if_neg (by omega)]at hg
  intros;refine gr 37 38 ?_;refine sJ c178r8.eq_1 ?_
  intros;refine rV ?_;simp only[push_cast,Nat.reduceBEq]
  exact⟨_,by rw[hg],by rw[hg];exact BE.zero⟩
 have k4:=of_decide_eq_false k4
 rw[if_pos (by omega)]at hg
 have hpre:=SlV.pre n hB (by omega)
 have hop:=Open_ok (rest.take n) _ G hpre (by simp;omega)
 have hol:=openB_len (rest.take n)
 have hrn:(rest.take n).length≤2044:=by simp;omega
 generalize openB (rest.take n)=o at hop hg hol
 intros;refine gN ?_
 intros;refine gr 38 45 ?_;refine sJ c178r9.eq_1 ?_
 refine⟨by omega,?_⟩
 refine(hop _ []).mono ?_
 rintro r h' ⟨G1,L',rfl,hg1,u,rfl,ys,hys,rfl⟩
 refine sI ?_
 intros;try refine go_seq ?_
 refine go_gx (gx_slv_at [] _ (by decide) hys) ?_
 rintro h' ⟨G2,rfl,hg2,hv2⟩
 intros;refine gr 45 46 ?_;refine sJ c178r10.eq_1 ?_
 intros;refine gc ?_;refine sI ?_
 refine gb (fun k5=>?_) (fun k5=>?_)
 ·have k5:=of_decide_eq_true k5
  rw[if_neg k5]at hg
  intros;refine gr 47 49 ?_;refine sJ c178r11.eq_1 ?_
  intros;refine rV ?_;simp only[push_cast,Nat.reduceBEq]
  exact⟨_,by rw[hg],by rw[hg];exact BE.zero⟩
 have k5:o.2=0:=by simpa using k5
 rw[if_pos k5]at hg
 intros;refine gN ?_
 intros;refine gr 49 54 ?_;refine sJ c178r12.eq_1 ?_
 refine(parse_ok o.1 u G2 hv2 (by omega) _ []).mono ?_
 rintro r h' ⟨G3,rfl,hg3,x,cs,ok,rfl,hbe,hpo⟩
 have hck:=BCheck_ok x cs G3 hbe
 have hbe0:=hbe
 obtain⟨B',d',rfl,-⟩:=hbe
 unfold cellH at hck
 unfold cellH
 refine sI ?_
 have hbad:chkP 15 o.1=none→∀ (fr:List Td) (e:Env),go none Tryz.prog 68 v178.1 v178.2 (retQ o178 fun v h=>GetBR l a h.G v) (Td.s ((SC.reg false c178r14).seq .ret) :: fr) e ⟨G3,[.reg 4 (cellH x (.slice B' x.recs.length d'))],[]⟩:=fun hx fr e=>by
  rw[hx]at hg
  dsimp only at hg
  unfold cellH
  intros;refine gr 61 62 ?_;refine sJ c178r14.eq_1 ?_
  intros;refine rV ?_;simp only[push_cast,Nat.reduceBEq]
  exact⟨_,by rw[hg],by rw[hg];exact BE.zero⟩
 unfold cellH at hbad
 intros;refine gr 54 60 ?_;refine sJ c178r13.eq_1 ?_
 refine gd (fun k6=>?_) (fun k6=>?_)
 ·have k6:ok=false:=by simpa using k6
  subst k6
  refine sI ?_
  intros;refine gc ?_;refine sI ?_
  exact hbad (chkP_none hpo) _ _
 have k6:ok=true:=by simpa using k6
 subst k6
 refine sI ?_
 refine(hck _ _).mono ?_;rintro _ _ ⟨rfl,rfl⟩;refine sI ?_
 intros;refine gc ?_;refine sI ?_
 refine gb (fun k7=>?_) (fun k7=>?_)
 ·have k7:=of_decide_eq_true k7
  exact hbad (chkP_bad hpo k7) _ _
 have k7:errB x=0:=by simpa using k7
 clear hbad
 rw[chkP_some hpo k7]at hg
 dsimp only at hg
 have hcn:IntKind.i64.wrap (n:Int)=(n:Int):=by rw[w64_id] <;> omega
 have hw5:IntKind.i64.wrap (((a+4:Nat):Int)+n)=((a+4+n:Nat):Int):=by rw[w64_id] <;> omega
 generalize a+4+n=nx at hg hw5
 generalize a+4=a4 at w4 hw5
 intros;refine gN ?_
 intros;refine gr 62 68 ?_;refine sJ4 c178r15.eq_1 @w4 @hcn @hw5 ?_
 intros;refine rV ?_;simp only[push_cast,Nat.reduceBEq]
 exact⟨_,by rw[hg],by rw[hg];exact hbe0⟩
theorem u8_of{y:Nat}(h:y < 256):(UInt8.ofNat y).toNat=y:=by simp;omega
theorem u8_to(x:UInt8):UInt8.ofNat x.toNat=x:=by simp
theorem gvL_vnat:∀ (f i z y:Nat) (q:List UInt8),i+f=9→y < 2 * 128 ^ f→(0 < i→0 < y)→gvL i z (vnat f y++q)=(0,z+128 ^ i * y,i+(vnat f y).length)
 | 0,i,z,y,q,hi,hy,h0=>by
  have hx:(UInt8.ofNat y).toNat=y:=u8_of (by simp at hy;omega)
  simp at hy
  simp only[vnat,List.cons_append,List.nil_append]
  rw[gvL_end (by rw[hx];omega) (by rw[hx];omega),hx,Nat.mod_eq_of_lt (by omega)]
  rfl
 | f+1,i,z,y,q,hi,hy,h0=>by
  unfold vnat
  split
  ·rename_i hlt
   have hx:(UInt8.ofNat y).toNat=y:=u8_of (by omega)
   simp only[List.cons_append,List.nil_append]
   rw[gvL_end (by rw[hx];omega) (by rw[hx];omega),hx,Nat.mod_eq_of_lt (by omega)]
   rfl
  ·rename_i hge
   have hx:(UInt8.ofNat (128+y % 128)).toNat=128+y % 128:=u8_of (by omega)
   simp only[List.cons_append]
   rw[gvL_more (by rw[hx];omega) (by rw[hx];omega),hx]
   rw[Nat.pow_succ]at hy
   rw[gvL_vnat f (i+1) _ (y / 128) q (by omega) (by omega) (by omega)]
   have e1:(128+y % 128) % 128=y % 128:=by omega
   have e2:128 ^ (i+1) * (y / 128)=128 ^ i * (128 * (y / 128)):=by rw[Nat.pow_succ,Nat.mul_assoc]
   rw[e1,e2,Nat.add_assoc,← Nat.mul_add,show y % 128+128 * (y / 128)=y by omega]
   simp
   omega
theorem gvL_back:∀ (m:List UInt8) (i z:Nat),i≤9→(gvL i z m).1=0→∃ y rest,m=vnat (9 - i) y++rest∧(gvL i z m).2.1=z+128 ^ i * y∧(gvL i z m).2.2=i+(vnat (9 - i) y).length∧(0 < i→0 < y)∧y < 2 * 128 ^ (9 - i)
 | [],i,z,_,h=>by simp[gvL]at h
 | x :: xs,i,z,hi,h=>by
  have hxl:=x.toNat_lt
  by_cases h1:(i=9∧1 < x.toNat)∨(0 < i∧x.toNat=0)
  ·rw[gvL_bad h1]at h;cases h
  ·by_cases h2:x.toNat < 128
   ·rw[gvL_end h1 h2]
    refine⟨x.toNat,xs,?_,by rw[Nat.mod_eq_of_lt h2],?_,by omega,?_⟩
    ·rw[vnat_lt h2,u8_to]
     rfl
    ·rw[vnat_lt h2]
     rfl
    ·by_cases h9:i=9
     ·subst h9
      simp
      omega
     ·have:128 ^ 1≤128 ^ (9 - i):=Nat.pow_le_pow_right (by decide) (by omega)
      omega
   ·have hi8:i≤8:=by omega
    rw[gvL_more h1 h2]at h ⊢
    obtain⟨y,rest,e1,e2,e3,e4,e5⟩:=gvL_back xs (i+1) _ (by omega) h
    have hy:=e4 (by omega)
    refine⟨(x.toNat - 128)+128 * y,rest,?_,?_,?_,by omega,?_⟩
    ·rw[show 9 - i=9 - (i+1)+1 by omega,vnat,if_neg (by omega),show 128+(x.toNat - 128+128 * y) % 128=x.toNat by omega,u8_to,show(x.toNat - 128+128 * y) / 128=y by omega,List.cons_append,← e1]
    ·rw[e2,Nat.pow_succ,Nat.add_assoc]
     congr 1
     rw[show x.toNat % 128=x.toNat - 128 by omega,Nat.mul_assoc,← Nat.mul_add]
    ·rw[e3,show 9 - i=9 - (i+1)+1 by omega,vnat,if_neg (by omega),show(x.toNat - 128+128 * y) / 128=y by omega,List.length_cons]
     omega
    ·rw[show 9 - i=9 - (i+1)+1 by omega,Nat.pow_succ]
     omega
theorem zag_zig{n:Int}(h:I64 n):zag (zig n)=n:=by
 unfold zag zig I64 at *
 split <;> split <;> omega
theorem zig_zag(z:Nat):zig (zag z)=z:=by
 unfold zag zig
 split <;> split <;> omega
theorem getV_if{l:List UInt8}{a:Nat}:getV l (a:Int)=if (gvL 0 0 (l.drop a)).1=0 then(zag (gvL 0 0 (l.drop a)).2.1,(a:Int)+(gvL 0 0 (l.drop a)).2.2,0)else(0,0,(gvL 0 0 (l.drop a)).1):=by
 rw[getV,if_neg (by omega)]
 rfl
theorem getV_at{l:List UInt8}{a:Nat}{n:Int}{q:List UInt8}(hn:I64 n)(h:l.drop a=pvB n++q):getV l (a:Int)=(n,((a+(pvB n).length:Nat):Int),0):=by
 have hz:=zig_lt hn
 rw[getV_if,h,pvB,gvL_vnat 9 0 0 (zig n) q rfl (by omega) (by omega)]
 simp only[if_true,Nat.zero_add,Nat.pow_zero,Nat.one_mul,zag_zig hn]
 rfl
theorem getV_back{l:List UInt8}{a:Nat}(h:(getV l (a:Int)).2.2=0):∃ q,l.drop a=pvB (getV l (a:Int)).1++q∧(getV l (a:Int)).2.1=((a+(pvB (getV l (a:Int)).1).length:Nat):Int)∧I64 (getV l (a:Int)).1:=by
 obtain⟨_,_,_,_,_,hi⟩:=getV_ok h
 rw[getV_if]at h hi ⊢
 split at h
 ·rename_i h0
  rw[if_pos h0]at hi ⊢
  obtain⟨y,rest,e1,e2,e3,_,e5⟩:=gvL_back _ 0 0 (by omega) h0
  simp only[Nat.zero_add,Nat.pow_zero,Nat.one_mul,Nat.sub_zero]at e1 e2 e3
  dsimp only at hi ⊢
  rw[e2]at hi ⊢
  refine⟨rest,?_,?_,hi⟩
  ·rw[pvB,zig_zag];exact e1
  ·rw[pvB,zig_zag,e3];rfl
 ·rename_i h0
  exact absurd h h0
theorem pvB_pos(n:Int):0 < (pvB n).length:=(vnat_len 9 _).2
theorem getT_at{l:List UInt8}{a:Nat}{s:ByteArray}{q:List UInt8}(hs:s.size≤64)(h:l.drop a=ptB s++q):getT l (a:Int) 64=(s,((a+(ptB s).length:Nat):Int),0):=by
 have hv:=getV_at (l:=l) (a:=a) (n:=s.size) (q:=s.data.toList++q) (by unfold I64;omega) (by rw[h,ptB,List.append_assoc])
 have hd:l.drop (a+(pvB s.size).length)=s.data.toList++q:=by rw[← List.drop_drop,h,ptB,List.append_assoc,List.drop_left]
 have hl:s.data.toList.length=s.size:=rfl
 have hlen:a+(pvB s.size).length+s.size≤l.length:=by
  have:=congrArg List.length hd
  simp at this
  have h2:=pvB_pos s.size
  have h3:=congrArg List.length h
  simp[ptB]at h3
  omega
 rw[getT,hv]
 dsimp only
 rw[if_pos rfl,if_neg (by omega),if_neg (by omega),if_neg (by omega)]
 simp only[Int.toNat_natCast]
 have e1:(l.take (a+(pvB s.size).length+s.size)).drop (a+(pvB s.size).length)=s.data.toList:=by
  rw[List.drop_take,Nat.add_sub_cancel_left,hd,List.take_left' hl]
 rw[e1]
 refine Prod.ext rfl (Prod.ext ?_ rfl)
 simp only[ptB,List.length_append,hl]
 omega
theorem getT_back{l:List UInt8}{a:Nat}(h:(getT l (a:Int) 64).2.2=0):∃ q,l.drop a=ptB (getT l (a:Int) 64).1++q∧(getT l (a:Int) 64).2.1=((a+(ptB (getT l (a:Int) 64).1).length:Nat):Int)∧(getT l (a:Int) 64).1.size≤64:=by
 have hb:=@getV_back l a
 have hk:=@getV_ok l a
 unfold getT at h ⊢
 split at h
 ·rename_i h0
  obtain⟨q,e1,e2,e3⟩:=hb h0
  obtain⟨k,_,e4,_,e5,_⟩:=hk h0
  rw[Int.toNat_natCast]at e4 e5
  rw[if_pos h0]
  split at h
  ·cases h
  ·rename_i h1
   split at h
   ·cases h
   ·rename_i h2
    split at h
    ·cases h
    ·rename_i h3
     rw[if_neg h1,if_neg h2,if_neg h3]
     generalize getV l (a:Int)=v at *
     obtain⟨n,nx,er⟩:=v
     dsimp only at *
     obtain⟨n,rfl⟩:∃ m:Nat,n=m:=⟨n.toNat,by omega⟩
     have hk2:k=(pvB n).length:=by omega
     subst hk2
     subst e4
     simp only[Int.toNat_natCast]
     have hd:l.drop (a+(pvB n).length)=q:=by rw[← List.drop_drop,e1,List.drop_left]
     have hql:n≤q.length:=by rw[← hd];simp;omega
     have e6:(l.take (a+(pvB n).length+n)).drop (a+(pvB n).length)=q.take n:=by rw[List.drop_take,Nat.add_sub_cancel_left,hd]
     rw[e6]
     have hsz:(ByteArray.mk (q.take n).toArray).size=n:=by
      show(q.take n).toArray.size=n
      simp
      omega
     refine⟨q.drop n,?_,?_,by rw[hsz];omega⟩
     ·rw[ptB,hsz,List.append_assoc,e1]
      simp
     ·rw[ptB,List.length_append,hsz]
      simp
      omega
 ·rename_i h0
  exact absurd h h0
theorem at_0{l:List UInt8}{a:Nat}{x:UInt8}{q:List UInt8}(h:l.drop a=x :: q):l[a]?=some x:=by
 have:=List.getElem?_drop (xs:=l) (i:=a) (j:=0)
 rw[Nat.add_zero,h]at this
 exact this.symm
theorem drop_1{l:List UInt8}{a:Nat}{x:UInt8}(h:l[a]?=some x):l.drop a=x :: l.drop (a+1):=by
 have h2:=List.getElem?_eq_some_iff.1 h
 rw[List.drop_eq_getElem_cons h2.1,h2.2]
theorem drop_more{l p q:List UInt8}{a:Nat}(h:l.drop a=p++q):l.drop (a+p.length)=q:=by rw[← List.drop_drop,h,List.drop_left]
theorem inO_iff{n:Int}:inO n=true↔0≤n∧n≤1099511627776:=by simp[inO]
theorem getR_at{l:List UInt8}{a:Nat}{r:Rec}{base stamp:Int}{q:List UInt8}(hb:inO base=true)(hs:inO stamp=true)(hc:chkR r=0)(h:l.drop a=prB r base stamp++q):getR l (a:Int) base stamp=(r,((a+(prB r base stamp).length:Nat):Int),0):=by
 obtain⟨⟨c1,c2⟩,c3,c4⟩:=chk_small hc
 have hb':=inO_iff.1 hb
 have hs':=inO_iff.1 hs
 have c1':=inO_iff.1 c1
 have c2':=inO_iff.1 c2
 have h1:l.drop a=pvB (r.off - base)++(pvB (r.stamp - stamp)++((if r.dead=true then 1 else 0) :: (ptB r.key++(ptB r.val++q)))):=by rw[h,prB];simp
 have h2:=drop_more h1
 have h3:=drop_more h2
 have h4:l.drop (a+(pvB (r.off - base)).length+(pvB (r.stamp - stamp)).length+1)=ptB r.key++(ptB r.val++q):=by
  have:=drop_more (p:=[if r.dead=true then 1 else 0]) h3
  exact this
 have h5:=drop_more h4
 have v1:=getV_at (show I64 (r.off - base)by unfold I64;omega) h1
 have v2:=getV_at (show I64 (r.stamp - stamp)by unfold I64;omega) h2
 have v4:=getT_at c3 h4
 have v5:=getT_at c4 h5
 have v3:getF l (a+(pvB (r.off - base)).length+(pvB (r.stamp - stamp)).length)=(r.dead,((a+(pvB (r.off - base)).length+(pvB (r.stamp - stamp)).length+1:Nat):Int),0):=by
  rw[getF,at_0 h3]
  cases r.dead <;> simp
 have e1:g1 l a=(r.off - base,((a+(pvB (r.off - base)).length:Nat):Int),0):=by rw[g1_eq,v1]
 have e2:g2 l a=(r.stamp - stamp,((a+(pvB (r.off - base)).length+(pvB (r.stamp - stamp)).length:Nat):Int),0):=by rw[g2,e1,nx_0 rfl,v2]
 have e3:g3 l a=(r.dead,((a+(pvB (r.off - base)).length+(pvB (r.stamp - stamp)).length+1:Nat):Int),0):=by rw[g3,e2,nx_0 rfl,Int.toNat_natCast,v3]
 have e4:g4 l a=(r.key,((a+(pvB (r.off - base)).length+(pvB (r.stamp - stamp)).length+1+(ptB r.key).length:Nat):Int),0):=by rw[g4,e3,nx_0 rfl,v4]
 have e5:g5 l a=(r.val,((a+(pvB (r.off - base)).length+(pvB (r.stamp - stamp)).length+1+(ptB r.key).length+(ptB r.val).length:Nat):Int),0):=by rw[g5,e4,nx_0 rfl,v5]
 have er:recR l a base stamp=r:=by
  rw[recR,e1,e2,e3,e4,e5]
  have b1:bes base (r.off - base)=r.off:=by rw[bes,if_neg (by omega)];omega
  have b2:bes stamp (r.stamp - stamp)=r.stamp:=by rw[bes,if_neg (by omega)];omega
  dsimp only
  rw[b1,b2]
 have hal:a≤l.length:=by
  have h6:=congrArg List.length h1
  have:=pvB_pos (r.off - base)
  simp at h6
  omega
 rw[getR_if ⟨hb,hs,by omega,by omega⟩,e5]
 dsimp only
 rw[if_pos rfl,er,if_pos hc]
 refine Prod.ext rfl (Prod.ext ?_ rfl)
 dsimp only
 simp only[prB,List.length_append,List.length_cons,List.length_nil]
 omega
theorem getR_back{l:List UInt8}{a:Nat}{base stamp:Int}(h:(getR l (a:Int) base stamp).2.2=0):∃ q,l.drop a=prB (getR l (a:Int) base stamp).1 base stamp++q∧(getR l (a:Int) base stamp).2.1=((a+(prB (getR l (a:Int) base stamp).1 base stamp).length:Nat):Int)∧chkR (getR l (a:Int) base stamp).1=0:=by
 by_cases hin:inO base=true∧inO stamp=true∧0≤(a:Int)∧(a:Int)≤l.length
 rotate_left
 ·rw[getR,if_neg hin]at h;cases h
 have k5:(g5 l a).2.2=0:=by
  rcases Int.lt_or_le 0 0 with hh | _
  ·omega
  ·by_cases hh:(g5 l a).2.2=0
   ·exact hh
   ·rw[getR_5 hin hh]at h;exact absurd h hh
 have k4:(g4 l a).2.2=0:=by
  by_cases hh:(g4 l a).2.2=0
  ·exact hh
  ·rw[getR_4 hin hh]at h;exact absurd h hh
 have k3:(g3 l a).2.2=0:=by
  by_cases hh:(g3 l a).2.2=0
  ·exact hh
  ·rw[getR_3 hin hh]at h;exact absurd h hh
 have k2:(g2 l a).2.2=0:=by
  by_cases hh:(g2 l a).2.2=0
  ·exact hh
  ·rw[getR_2 hin hh]at h;exact absurd h hh
 have k1:(g1 l a).2.2=0:=by
  by_cases hh:(g1 l a).2.2=0
  ·exact hh
  ·rw[getR_1 hin hh]at h;exact absurd h hh
 rw[getR_if hin,if_pos k5]at h ⊢
 split at h
 rotate_left
 ·cases h
 rename_i hc
 rw[if_pos hc]
 -- field by field
 have e1:=g1_eq l a
 rw[e1]at k1
 obtain⟨q1,a1,a2,a3⟩:=getV_back k1
 have e2:g2 l a=getV l (getV l a).2.1:=by rw[g2,e1,nx_0 k1]
 generalize hv1:getV l (a:Int)=v1 at *
 obtain⟨d1,n1,x1⟩:=v1
 dsimp only at *
 subst a2
 rw[e2]at k2
 obtain⟨q2,b1,b2,b3⟩:=getV_back k2
 have e3:g3 l a=getF l (getV l ((a+(pvB d1).length:Nat):Int)).2.1.toNat:=by rw[g3,e2,nx_0 k2]
 generalize hv2:getV l ((a+(pvB d1).length:Nat):Int)=v2 at *
 obtain⟨d2,n2,x2⟩:=v2
 dsimp only at *
 subst b2
 rw[Int.toNat_natCast]at e3
 have hz1:=drop_more a1
 have hz2:=drop_more b1
 -- the byte
 generalize hj:a+(pvB d1).length+(pvB d2).length=j at *
 obtain⟨x,hx⟩:∃ x,l[j]?=some x:=by
  cases hx:l[j]? with
  | none=>rw[e3,getF,hx]at k3;cases k3
  | some x=>exact⟨x,rfl⟩
 have hxl:¬ 1 < x.toNat:=fun hh=>by
  rw[e3,getF,hx]at k3
  dsimp only at k3
  rw[if_pos hh]at k3
  cases k3
 have e3':g3 l a=(decide (x.toNat=1),((j+1:Nat):Int),0):=by
  rw[e3,getF,hx]
  dsimp only
  rw[if_neg hxl]
  rfl
 have hd3:=drop_1 hx
 -- the texts
 have e4:g4 l a=getT l ((j+1:Nat):Int) 64:=by rw[g4,e3',nx_0 rfl]
 rw[e4]at k4
 obtain⟨q4,c1,c2,c3⟩:=getT_back k4
 have e5:g5 l a=getT l (getT l ((j+1:Nat):Int) 64).2.1 64:=by rw[g5,e4,nx_0 k4]
 generalize hv4:getT l ((j+1:Nat):Int) 64=v4 at *
 obtain⟨s4,n4,x4⟩:=v4
 dsimp only at *
 subst c2
 rw[e5]at k5
 obtain⟨q5,f1,f2,f3⟩:=getT_back k5
 generalize hv5:getT l ((j+1+(ptB s4).length:Nat):Int) 64=v5 at *
 obtain⟨s5,n5,x5⟩:=v5
 dsimp only at *
 subst f2
 have hrr:recR l a base stamp=⟨bes base d1,s4,s5,decide (x.toNat=1),bes stamp d2⟩:=by rw[recR,e1,e2,e3',e4,e5]
 rw[hrr]at hc ⊢
 obtain⟨⟨o1,o2⟩,-,-⟩:=chk_small hc
 dsimp only at o1 o2
 have hb1:bes base d1 - base=d1:=by
  unfold bes at o1 ⊢
  split
  ·rename_i hh;rw[if_pos hh]at o1;simp[inO]at o1
  ·omega
 have hb2:bes stamp d2 - stamp=d2:=by
  unfold bes at o2 ⊢
  split
  ·rename_i hh;rw[if_pos hh]at o2;simp[inO]at o2
  ·omega
 have hbyte:(if decide (x.toNat=1)=true then(1:UInt8)else 0)=x:=by
  apply UInt8.toNat_inj.1
  by_cases hh:x.toNat=1
  ·simp[hh]
  ·simp[hh];omega
 have hpr:prB ⟨bes base d1,s4,s5,decide (x.toNat=1),bes stamp d2⟩ base stamp=pvB d1++pvB d2++[x]++ptB s4++ptB s5:=by
  rw[prB]
  dsimp only
  rw[hb1,hb2,hbyte]
 have hz4:=drop_more c1
 refine⟨q5,?_,?_,hc⟩
 ·rw[hpr,a1,← hz1,b1,← hz2,hd3,c1,← hz4,f1]
  simp
 ·rw[e5,hpr]
  dsimp only
  simp only[List.length_append,List.length_cons,List.length_nil]
  omega
theorem take_one{α:Type}{l:List α}{k:Nat}(h:k < l.length):l=l.take k++(l[k] :: l.drop (k+1)):=by
 rw[← List.drop_eq_getElem_cons h,List.take_append_drop]
theorem headB_app(a b:List Int):headB (a++b)=headB a++headB b:=by simp[headB]
theorem headB_cons(n:Int)(b:List Int):headB (n :: b)=pvB n++headB b:=by simp[headB]
theorem recsB_app(base stamp:Int)(a b:List Rec):recsB base stamp (a++b)=recsB base stamp a++recsB base stamp b:=by simp[recsB]
theorem recsB_cons(base stamp:Int)(r:Rec)(b:List Rec):recsB base stamp (r :: b)=prB r base stamp++recsB base stamp b:=by simp[recsB]
theorem nums_at{l q:List UInt8}{ns:List Int}(hi:∀ n∈ns,I64 n)(h:l=headB ns++q):∀ k,k≤ns.length→nums l k=some (ns.take k,(headB (ns.take k)).length)
 | 0,_=>by simp[nums,headB]
 | k+1,hk=>by
  have hd:l.drop (headB (ns.take k)).length=pvB ns[k]++(headB (ns.drop (k+1))++q):=by
   have e:=take_one (l:=ns) (k:=k) (by omega)
   have:l=headB (ns.take k)++(pvB ns[k]++(headB (ns.drop (k+1))++q)):=by
    rw[h]
    conv=>lhs;rw[e]
    rw[headB_app,headB_cons]
    simp
   rw[this,List.drop_left]
  have hv:=getV_at (hi _ (List.getElem_mem (by omega))) hd
  rw[nums,nums_at hi h k (by omega)]
  simp only[Option.bind_some]
  rw[hv]
  dsimp only
  rw[if_pos rfl,Int.toNat_natCast,List.take_succ_eq_append_getElem (by omega),headB_app,headB_cons]
  simp[headB]
theorem nums_back{l:List UInt8}:∀ (k:Nat) (ns:List Int) (p:Nat),nums l k=some (ns,p)→ns.length=k∧(∀ n∈ns,I64 n)∧∃ q,l=headB ns++q∧p=(headB ns).length
 | 0,ns,p,h=>by
  simp only[nums,Option.some.injEq,Prod.mk.injEq]at h
  obtain⟨rfl,rfl⟩:=h
  exact⟨rfl,by simp,l,by simp[headB],by simp[headB]⟩
 | k+1,ns,p,h=>by
  rw[nums]at h
  cases hk:nums l k with
  | none=>rw[hk]at h;cases h
  | some r =>
   obtain⟨ns',p'⟩:=r
   rw[hk]at h
   simp only[Option.bind_some]at h
   split at h
   ·rename_i h0
    obtain⟨h1,h2,q,h3,h4⟩:=nums_back k ns' p' hk
    obtain⟨q2,e1,e2,e3⟩:=getV_back h0
    simp only[Option.some.injEq,Prod.mk.injEq]at h
    obtain⟨rfl,rfl⟩:=h
    rw[e2]
    generalize (getV l (p':Int)).1=n at e1 e3 ⊢
    refine⟨by simp[h1],?_,q2,?_,?_⟩
    ·intro x hx
     rcases List.mem_append.1 hx with hx | hx
     ·exact h2 x hx
     ·simp at hx;rw[hx];exact e3
    ·have:q=pvB n++q2:=by rw[← e1,h3,h4,List.drop_left]
     rw[h3,this,headB_app,headB_cons]
     simp[headB]
    ·rw[Int.toNat_natCast,headB_app,headB_cons,h4]
     simp[headB]
   ·cases h
theorem recsG_at{l q:List UInt8}{base stamp:Int}{p:Nat}{rs:List Rec}(hb:inO base=true)(hs:inO stamp=true)(hc:∀ r∈rs,chkR r=0)(h:l.drop p=recsB base stamp rs++q):∀ k,k≤rs.length→recsG l base stamp p k=some (rs.take k,p+(recsB base stamp (rs.take k)).length)
 | 0,_=>by simp[recsG,recsB]
 | k+1,hk=>by
  have hd:l.drop (p+(recsB base stamp (rs.take k)).length)=prB rs[k] base stamp++(recsB base stamp (rs.drop (k+1))++q):=by
   have e:=take_one (l:=rs) (k:=k) (by omega)
   refine drop_more (p:=recsB base stamp (rs.take k)) ?_
   rw[h]
   conv=>lhs;rw[e]
   rw[recsB_app,recsB_cons]
   simp
  have hv:=getR_at hb hs (hc _ (List.getElem_mem (by omega))) hd
  rw[recsG,recsG_at hb hs hc h k (by omega)]
  simp only[Option.bind_some]
  rw[hv]
  dsimp only
  rw[if_pos rfl,Int.toNat_natCast,List.take_succ_eq_append_getElem (by omega),recsB_app,recsB_cons]
  simp[recsB]
  omega
theorem recsG_back{l:List UInt8}{base stamp:Int}{p:Nat}:∀ (k:Nat) (rs:List Rec) (p':Nat),recsG l base stamp p k=some (rs,p')→rs.length=k∧(∀ r∈rs,chkR r=0)∧∃ q,l.drop p=recsB base stamp rs++q∧p'=p+(recsB base stamp rs).length
 | 0,rs,p',h=>by
  simp only[recsG,Option.some.injEq,Prod.mk.injEq]at h
  obtain⟨rfl,rfl⟩:=h
  exact⟨rfl,by simp,l.drop p,by simp[recsB],by simp[recsB]⟩
 | k+1,rs,p',h=>by
  rw[recsG]at h
  cases hk:recsG l base stamp p k with
  | none=>rw[hk]at h;cases h
  | some r =>
   obtain⟨rs',p1⟩:=r
   rw[hk]at h
   simp only[Option.bind_some]at h
   split at h
   ·rename_i h0
    obtain⟨h1,h2,q,h3,h4⟩:=recsG_back k rs' p1 hk
    obtain⟨q2,e1,e2,e3⟩:=getR_back h0
    simp only[Option.some.injEq,Prod.mk.injEq]at h
    obtain⟨rfl,rfl⟩:=h
    rw[e2]
    generalize (getR l (p1:Int) base stamp).1=r at e1 e3 ⊢
    refine⟨by simp[h1],?_,q2,?_,?_⟩
    ·intro x hx
     rcases List.mem_append.1 hx with hx | hx
     ·exact h2 x hx
     ·simp at hx;rw[hx];exact e3
    ·have:q=prB r base stamp++q2:=by rw[← e1,h4,drop_more h3]
     rw[h3,this,recsB_app,recsB_cons]
     simp[recsB]
    ·rw[Int.toNat_natCast,recsB_app,recsB_cons,h4]
     simp[recsB]
     omega
   ·cases h
theorem mark_back{m:UInt8}(h:m.toNat < 8):UInt8.ofNat ((((m.toNat % 4:Nat):Int)).toNat+if decide (4≤m.toNat)=true then 4 else 0)=m:=by
 apply UInt8.toNat_inj.1
 rw[Int.toNat_natCast]
 by_cases h4:4≤m.toNat
 ·rw[if_pos (decide_eq_true h4),u8_of (by omega)]
  omega
 ·rw[if_neg (by simpa using h4),u8_of (by omega)]
  omega
theorem parse_back{l:List UInt8}{x:Batch}(h:parseB 15 l=some x):l=bodyB x:=by
 unfold parseB at h
 cases hn:nums l 7 with
 | none=>rw[hn]at h;cases h
 | some q =>
  obtain⟨ns,p⟩:=q
  rw[hn]at h
  simp only[Option.bind_some]at h
  obtain⟨hnl,hni,q0,hl0,rfl⟩:=nums_back 7 ns p hn
  unfold parse2 at h
  dsimp only at h
  cases hm:l[(headB ns).length]? with
  | none=>rw[hm]at h;cases h
  | some m =>
   rw[hm]at h
   simp only[Option.bind_some]at h
   split at h
   rotate_left
   ·cases h
   rename_i hc
   obtain⟨hm8,hn0,hn1⟩:=hc
   have hd1:=drop_1 hm
   unfold parse3 at h
   split at h
   rotate_left
   ·cases h
   rename_i hv
   obtain⟨q1,e1,e2,e3⟩:=getV_back (a:=(headB ns).length+1) hv.1
   rw[show(((headB ns).length:Nat):Int)+1=(((headB ns).length+1:Nat):Int)from rfl]at h hv
   generalize getV l (((headB ns).length+1:Nat):Int)=v at *
   obtain⟨n,nx,er⟩:=v
   dsimp only at *
   subst e2
   generalize hsd:(if 0 < n then getV l (((headB ns).length+1+(pvB n).length:Nat):Int)else(0,(((headB ns).length+1+(pvB n).length:Nat):Int),0))=s at h
   unfold parse4 at h
   split at h
   rotate_left
   ·cases h
   rename_i hs
   cases hr:recsG l (ns.getD 0 0) s.1 s.2.1.toNat n.toNat with
   | none=>rw[hr]at h;cases h
   | some q =>
    obtain⟨rs,p3⟩:=q
    rw[hr]at h
    simp only[Option.bind_some]at h
    split at h
    rotate_left
    ·cases h
    rename_i hf
    obtain⟨hp3,hso⟩:=hf
    cases h
    obtain⟨hrl,hrc,q3,f1,f2⟩:=recsG_back _ rs p3 hr
    obtain⟨n0,n1,n2,n3,n4,n5,n6,rfl⟩:∃ n0 n1 n2 n3 n4 n5 n6:Int,ns=[n0,n1,n2,n3,n4,n5,n6]:=by
     match ns,hnl with
     | [n0,n1,n2,n3,n4,n5,n6],_=>exact⟨n0,n1,n2,n3,n4,n5,n6,rfl⟩
    have hhead:headN (mkB [n0,n1,n2,n3,n4,n5,n6] m rs)=[n0,n1,n2,n3,n4,n5,n6]:=by
     have:n0+n1 - n0=n1:=by omega
     simp[headN,mkB,this]
    have hmark:markB (mkB [n0,n1,n2,n3,n4,n5,n6] m rs)=m:=mark_back hm8
    have hlen:(rs.length:Int)=n:=by omega
    have hq3:q3=[]:=by
     have:=congrArg List.length f1
     simp only[List.length_drop,List.length_append]at this
     exact List.eq_nil_of_length_eq_zero (by
      by_cases hsl:s.2.1.toNat≤l.length
      ·omega
      ·omega)
    subst hq3
    rw[List.append_nil]at f1
    have hbody:bodyB (mkB [n0,n1,n2,n3,n4,n5,n6] m rs)=headB [n0,n1,n2,n3,n4,n5,n6]++[m]++pvB n++tailB (mkB [n0,n1,n2,n3,n4,n5,n6] m rs):=by
     rw[bodyB,hhead,hmark]
     show _++_++pvB (rs.length:Int)++_=_
     rw[hlen]
    rw[hbody]
    have hq0:q0=l.drop (headB [n0,n1,n2,n3,n4,n5,n6]).length:=by rw[hl0,List.drop_left]
    have hz1:=drop_more e1
    have htail:q1=tailB (mkB [n0,n1,n2,n3,n4,n5,n6] m rs):=by
     match rs,hrl,hso,f1 with
     | [],hrl,_,f1 =>
      have hn0':¬ 0 < n:=by simp at hlen;omega
      rw[if_neg hn0']at hsd
      subst hsd
      rw[Int.toNat_natCast]at f1
      dsimp only at f1
      rw[hz1]at f1
      rw[f1]
      simp[tailB,mkB,recsB]
     | r :: rs,hrl,hso,f1 =>
      have hn0':0 < n:=by simp at hlen;omega
      rw[if_pos hn0']at hsd
      subst hsd
      obtain⟨q4,g1',g2',g3'⟩:=getV_back hs
      have hst:r.stamp=(getV l (((headB [n0,n1,n2,n3,n4,n5,n6]).length+1+(pvB n).length:Nat):Int)).1:=by simpa [stOk]using hso
      rw[g2',Int.toNat_natCast,drop_more g1']at f1
      rw[← hz1,g1',f1,tailB]
      simp only[mkB]
      rw[hst]
    rw[← htail,hl0]
    conv=>lhs;rw[hq0,hd1,e1]
    simp
theorem bodyB_pos(x:Batch):0 < (bodyB x).length:=by
 simp only[bodyB,List.length_append,List.length_cons,List.length_nil]
 omega
theorem parse_at{x:Batch}(hf:Form x):parseB 15 (bodyB x)=some x:=by
 have hf0:=hf
 obtain⟨hrc,hrl⟩:=form_recs hf0
 obtain⟨⟨f1,f2,f3⟩,⟨f4,f5,f6⟩,⟨f7,f8,f9,f10⟩,f11,f12,f13⟩:=hf
 simp[rng]at f1 f2 f3 f4 f5 f6
 have hi:∀ n∈headN x,I64 n:=by
  intro n hn
  simp[headN]at hn
  unfold I64
  omega
 have hb:bodyB x=headB (headN x)++(markB x :: (pvB x.recs.length++tailB x)):=by simp[bodyB]
 have h7:=nums_at hi hb 7 (by simp[headN])
 rw[show(headN x).take 7=headN x from rfl]at h7
 have hctl:x.ctl=0∨x.ctl=1∨x.ctl=2:=by
  rcases f13 with h | h
  ·exact .inl h.1
  ·exact .inr h.1
 have hmark:(markB x).toNat=x.ctl.toNat+(if x.txn=true then 4 else 0):=by
  rw[markB,u8_of]
  split <;> omega
 have hmk:mkB (headN x) (markB x) x.recs=x:=by
  have h4:x.base+(x.last - x.base)=x.last:=by omega
  have h5:decide (4≤(markB x).toNat)=x.txn:=by
   rw[hmark]
   cases x.txn
   ·simp;omega
   ·simp
  have h6:(((markB x).toNat % 4:Nat):Int)=x.ctl:=by
   rw[hmark]
   split <;> omega
  simp only[mkB,headN,List.getD_cons_zero,List.getD_cons_succ,h4,h5,h6]
 generalize bodyB x=l at hb h7 ⊢
 have hd0:l.drop (headB (headN x)).length=markB x :: (pvB x.recs.length++tailB x):=by rw[hb,List.drop_left]
 have hm:=at_0 hd0
 have hd1:l.drop ((headB (headN x)).length+1)=pvB x.recs.length++tailB x:=drop_more (p:=[markB x]) hd0
 have hv:=getV_at (n:=x.recs.length) (by unfold I64;omega) hd1
 have hd2:=drop_more hd1
 have hll:(l.drop ((headB (headN x)).length+1+(pvB (x.recs.length:Int)).length)).length=(tailB x).length:=by rw[hd2]
 have hle:(headB (headN x)).length+1+(pvB (x.recs.length:Int)).length+(tailB x).length=l.length:=by
  have:=congrArg List.length hb
  simp only[List.length_append,List.length_cons]at this
  omega
 rw[parseB,h7]
 simp only[Option.bind_some]
 rw[parse2]
 dsimp only
 rw[hm]
 simp only[Option.bind_some]
 rw[if_pos ⟨by rw[hmark];split <;> omega,by show 0≤x.base∧x.base≤_;omega,by show 0≤x.last - x.base∧x.last - x.base≤_;omega⟩]
 rw[show(((headB (headN x)).length:Nat):Int)+1=(((headB (headN x)).length+1:Nat):Int)from rfl,hv,parse3]
 dsimp only
 rw[if_pos ⟨rfl,by omega,by omega⟩,Int.toNat_natCast]
 generalize (headB (headN x)).length+1+(pvB (x.recs.length:Int)).length=p2 at hd2 hle
 have hbase:(headN x).getD 0 0=x.base:=rfl
 cases hr:x.recs with
 | nil =>
  rw[hr]at hmk
  have ht:tailB x=[]:=by rw[tailB,hr]
  rw[if_neg (by simp),parse4,if_pos rfl,Int.toNat_natCast]
  simp only[List.length_nil,recsG,Option.bind_some]
  rw[if_pos ⟨by rw[ht]at hle;simpa using hle,rfl⟩,hmk]
 | cons r rs =>
  have ht:tailB x=pvB r.stamp++recsB x.base r.stamp (r :: rs):=by rw[tailB,hr]
  have hc0:=chk_small (hrc r (by rw[hr];simp))
  have hsi:=inO_iff.1 hc0.1.2
  rw[ht]at hd2 hle
  have hv2:=getV_at (n:=r.stamp) (by unfold I64;omega) hd2
  have hd3:=drop_more hd2
  have hg:=recsG_at (q:=[]) (inO_iff.2 f1) hc0.1.2 (fun y hy=>hrc y (by rw[hr];exact hy)) (by rw[hd3,List.append_nil]) (r :: rs).length (Nat.le_refl _)
  rw[List.take_length]at hg
  rw[if_pos (by simp only[List.length_cons];omega),hv2,parse4]
  dsimp only
  rw[if_pos rfl,Int.toNat_natCast,hbase,hg]
  simp only[Option.bind_some]
  rw[if_pos ⟨by simp only[List.length_append]at hle;omega,by simp[stOk]⟩,← hr,hmk]
theorem openB_at(b:List UInt8):openB (sealB b)=(b,0):=by
 have hl:=sealB_len b
 have h1:(sealB b).take ((sealB b).length - 4)=b:=by
  rw[hl,Nat.add_sub_cancel,sealB,List.take_left]
 have h2:(sealB b).drop ((sealB b).length - 4)=putN (crcB b).toNat 4:=by
  rw[hl,Nat.add_sub_cancel,sealB,List.drop_left]
 rw[openB,if_neg (by omega),h1,h2,if_pos rfl]
theorem openB_back{l:List UInt8}(h:(openB l).2=0):l=sealB (openB l).1:=by
 unfold openB at h ⊢
 split at h
 ·cases h
 ·rename_i h0
  rw[if_neg h0]
  split at h
  ·rename_i h1
   rw[if_pos h1]
   dsimp only
   conv=>lhs;rw[← List.take_append_drop (l.length - 4) l,h1]
   rfl
  ·cases h
theorem bytesB_pos(x:Batch):9≤(bytesB x).length:=by
 have:=bodyB_pos x
 rw[bytesB_len]
 omega
theorem getB_at{l q:List UInt8}{a:Nat}{x:Batch}(h0:errB x=0)(h:l.drop a=bytesB x++q):getB l (a:Int)=(x,((a+(bytesB x).length:Nat):Int),0):=by
 obtain⟨hf,hbl⟩:=errB_ok h0
 have hbp:=bytesB_pos x
 have hb8:=bytesB_len x
 have hsl:=sealB_len (bodyB x)
 have hd:l.drop a=putN (sealB (bodyB x)).length 4++(sealB (bodyB x)++q):=by rw[h,bytesB,List.append_assoc]
 have hd4:l.drop (a+4)=sealB (bodyB x)++q:=by
  have:=drop_more hd
  rwa [putN_len]at this
 have hn:getN l (a:Int) 4=((sealB (bodyB x)).length,0):=by
  rw[getN_nat,hd,if_neg (by simp[putN_len]),List.take_left' (putN_len _ _),numB_putN 4 _ (by omega)]
 rw[getB,hn]
 dsimp only
 rw[if_pos rfl,if_pos ⟨by omega,by omega⟩,Int.toNat_natCast,hd4,if_pos (by simp),List.take_left,openB_at]
 dsimp only
 rw[if_pos rfl,chkP_some (parse_at hf) h0]
 dsimp only
 refine Prod.ext rfl (Prod.ext ?_ rfl)
 dsimp only
 omega
theorem getB_back{l:List UInt8}{a:Int}(h:(getB l a).2.2=0):∃ (b:Nat) (q:List UInt8),a=b∧l.drop b=bytesB (getB l a).1++q∧(getB l a).2.1=((b+(bytesB (getB l a).1).length:Nat):Int)∧errB (getB l a).1=0:=by
 unfold getB at h ⊢
 split at h
 rotate_left
 ·rename_i h0;exact absurd h h0
 rename_i h0
 rw[if_pos h0]
 split at h
 rotate_left
 ·cases h
 rename_i h1
 rw[if_pos h1]
 split at h
 rotate_left
 ·cases h
 rename_i h2
 rw[if_pos h2]
 split at h
 rotate_left
 ·rename_i h3;exact absurd h h3
 rename_i h3
 rw[if_pos h3]
 obtain⟨ha,hal⟩:=(getN_ok h0).resolve_right (by decide)
 obtain⟨b,rfl⟩:∃ n:Nat,a=n:=⟨a.toNat,by omega⟩
 rw[Int.toNat_natCast]at *
 have hs:=openB_back h3
 cases hp:chkP 15 (openB ((l.drop (b+4)).take (getN l (b:Int) 4).1)).1 with
 | none=>rw[hp]at h;cases h
 | some x =>
  rw[hp]at h
  dsimp only
  rw[chkP]at hp
  cases hq:parseB 15 (openB ((l.drop (b+4)).take (getN l (b:Int) 4).1)).1 with
  | none=>rw[hq]at hp;cases hp
  | some y =>
   rw[hq]at hp
   simp only[Option.bind_some]at hp
   split at hp
   rotate_left
   ·cases hp
   rename_i h4
   cases hp
   have hb:=parse_back hq
   rw[hb]at hs
   have hn:getN l (b:Int) 4=(numB ((l.drop b).take 4),0):=by
    rw[getN_nat,if_neg (by simp;omega)]
   have hlen:(getN l (b:Int) 4).1=(sealB (bodyB x)).length:=by
    rw[← hs]
    simp only[List.length_take]
    omega
   have hd4:l.drop (b+4)=sealB (bodyB x)++(l.drop (b+4)).drop (getN l (b:Int) 4).1:=by
    conv=>lhs;rw[← List.take_append_drop (getN l (b:Int) 4).1 (l.drop (b+4)),hs]
   have hd:l.drop b=(l.drop b).take 4++l.drop (b+4):=by
    rw[← List.drop_drop]
    exact(List.take_append_drop 4 _).symm
   have h44:(l.drop b).take 4=putN (sealB (bodyB x)).length 4:=by
    rw[← hlen,hn]
    exact(putN_numB 4 _ (by simp;omega)).symm
   refine⟨b,(l.drop (b+4)).drop (getN l (b:Int) 4).1,rfl,?_,?_,h4⟩
   ·rw[bytesB,List.append_assoc,← hd4,← h44]
    exact hd
   ·rw[bytesB,List.length_append,putN_len,← hlen]
    omega
def allB(l:List Batch):List UInt8:=l.flatMap bytesB
theorem allB_take{l:List Batch}{k:Nat}{x:Batch}(hx:l[k]?=some x):allB (l.take (k+1))=allB (l.take k)++bytesB x:=by
 unfold allB
 rw[List.take_add_one,hx]
 simp[List.flatMap_append]
theorem allB_drop{l:List Batch}{k:Nat}{x:Batch}(hx:l[k]?=some x):(allB l).drop (allB (l.take k)).length=bytesB x++allB (l.drop (k+1)):=by
 obtain⟨hk,he⟩:=List.getElem?_eq_some_iff.1 hx
 have h1:allB l=allB (l.take k)++(bytesB x++allB (l.drop (k+1))):=by
  conv=>lhs;rw[← List.take_append_drop k l,List.drop_eq_getElem_cons hk,he]
  simp[allB,List.flatMap_append]
 rw[h1,List.drop_left]
theorem stp_0{v:W32}(h:stp v=0#32):v=0#32:=by
 cases hb:v.getLsbD 0 with
 | true =>
  exfalso
  rw[stp,if_pos hb]at h
  have h2:((v >>> 1) ^^^ poly).getLsbD 31=(0#32).getLsbD 31:=by rw[h]
  rw[BitVec.getLsbD_xor,BitVec.getLsbD_ushiftRight]at h2
  have h3:v.getLsbD (1+31)=false:=BitVec.getLsbD_of_ge _ _ (by omega)
  rw[h3]at h2
  exact absurd h2 (by decide)
 | false =>
  rw[stp_even hb]at h
  have h1:(v >>> 1).toNat=0:=by rw[h];rfl
  rw[BitVec.toNat_ushiftRight,Nat.shiftRight_eq_div_pow]at h1
  have h2:¬ v.toNat % 2=1:=fun hh=>by rw[(bit0 v).2 hh]at hb;cases hb
  apply BitVec.eq_of_toNat_eq
  show v.toNat=0
  omega
structure Sg where
 base:Int
 bytes:List UInt8
deriving DecidableEq
def ordB:Int→List Batch→Prop
 | _,[]=>True
 | nx,x :: xs=>nx≤x.base∧ordB (x.last+1) xs
def nextB:Int→List Batch→Int
 | nx,[]=>nx
 | _,x :: xs=>nextB (x.last+1) xs
def moreB(q:List UInt8)(nx:Int):Prop:=(getB q 0).2.2=0∧nx≤(getB q 0).1.base
instance (q:List UInt8) (nx:Int):Decidable (moreB q nx):=by unfold moreB;infer_instance
def scanF:Nat→Int→List UInt8→List Batch
 | 0,_,_=>[]
 | f+1,nx,q=>if moreB q nx then(getB q 0).1 :: scanF f ((getB q 0).1.last+1) (q.drop (bytesB (getB q 0).1).length)else[]
structure Scans (nx:Int) (q:List UInt8) (bs:List Batch) (r:List UInt8):Prop where
 eq:q=allB bs++r
 ok:∀ x∈bs,errB x=0
 ord:ordB nx bs
 stop:¬ moreB r (nextB nx bs)
def scanB(s:Sg):List Batch:=scanF s.bytes.length s.base s.bytes
def goodB(s:Sg):Nat:=(allB (scanB s)).length
def endB(s:Sg):Int:=nextB s.base (scanB s)
theorem allB_cons(x:Batch)(l:List Batch):allB (x :: l)=bytesB x++allB l:=rfl
theorem allB_app(a b:List Batch):allB (a++b)=allB a++allB b:=by simp[allB]
theorem nextB_app(nx:Int)(a b:List Batch):nextB nx (a++b)=nextB (nextB nx a) b:=by
 induction a generalizing nx with
 | nil=>rfl
 | cons x a ih=>exact ih _
theorem ordB_app(nx:Int)(a b:List Batch):ordB nx (a++b)↔ordB nx a∧ordB (nextB nx a) b:=by
 induction a generalizing nx with
 | nil=>simp[ordB,nextB]
 | cons x a ih=>simp only[List.cons_append,ordB,nextB,ih,and_assoc]
theorem getB_0{q s:List UInt8}{x:Batch}(h0:errB x=0)(h:q=bytesB x++s):getB q 0=(x,((bytesB x).length:Int),0):=by
 have:=getB_at (l:=q) (a:=0) h0 h
 rw[Nat.zero_add]at this
 exact this
theorem more_ok{q:List UInt8}{nx:Int}(h:moreB q nx):∃ x s,getB q 0=(x,((bytesB x).length:Int),0)∧q=bytesB x++s∧errB x=0∧nx≤x.base:=by
 obtain⟨h1,h2⟩:=h
 obtain⟨b,s,e0,e1,e2,e3⟩:=getB_back h1
 have hb:b=0:=by omega
 subst hb
 exact⟨_,s,getB_0 e3 e1,e1,e3,h2⟩
theorem more_at{q s:List UInt8}{x:Batch}{nx:Int}(h0:errB x=0)(h:q=bytesB x++s):moreB q nx↔nx≤x.base:=by
 rw[moreB,getB_0 h0 h]
 simp
theorem scanF_spec:∀ (f:Nat) (nx:Int) (q:List UInt8),q.length≤f→∃ r,Scans nx q (scanF f nx q) r
 | 0,nx,q,h=>by
  have hq:q=[]:=List.eq_nil_of_length_eq_zero (by omega)
  subst hq
  refine⟨[],⟨rfl,fun x hx=>(by cases hx),trivial,fun hm=>?_⟩⟩
  obtain⟨x,s,-,e,-⟩:=more_ok hm
  have:=bytesB_pos x
  have h2:=congrArg List.length e
  simp at h2
  omega
 | f+1,nx,q,h=>by
  unfold scanF
  split
  ·rename_i hm
   obtain⟨x,s,e1,e2,e3,e4⟩:=more_ok hm
   rw[e1]
   dsimp only
   have hp:=bytesB_pos x
   have hd:q.drop (bytesB x).length=s:=by rw[e2,List.drop_left]
   rw[hd]
   obtain⟨r,hr⟩:=scanF_spec f (x.last+1) s (by rw[e2,List.length_append]at h;omega)
   refine⟨r,⟨by rw[allB_cons,List.append_assoc,← hr.eq,e2],fun y hy=>?_,⟨e4,hr.ord⟩,hr.stop⟩⟩
   rcases List.mem_cons.1 hy with rfl | hy
   ·exact e3
   ·exact hr.ok y hy
  ·rename_i hm
   exact⟨q,⟨rfl,fun x hx=>(by cases hx),trivial,hm⟩⟩
theorem scan_spec(s:Sg):∃ r,Scans s.base s.bytes (scanB s) r:=scanF_spec _ _ _ (Nat.le_refl _)
theorem Scans.uniq:∀ {bs bs':List Batch} {nx:Int} {q r r':List UInt8},Scans nx q bs r→Scans nx q bs' r'→bs=bs'∧r=r'
 | [],[],nx,q,r,r',h,h'=>⟨rfl,by have:=h.eq.symm.trans h'.eq;exact this⟩
 | [],x :: bs',nx,q,r,r',h,h'=>by
  have hq:q=r:=h.eq
  subst hq
  exact absurd ((more_at (h'.ok x (.head _)) (by rw[h'.eq,allB_cons,List.append_assoc])).2 h'.ord.1) h.stop
 | x :: bs,[],nx,q,r,r',h,h'=>by
  have hq:q=r':=h'.eq
  subst hq
  exact absurd ((more_at (h.ok x (.head _)) (by rw[h.eq,allB_cons,List.append_assoc])).2 h.ord.1) h'.stop
 | x :: bs,y :: bs',nx,q,r,r',h,h'=>by
  have e1:q=bytesB x++(allB bs++r):=by rw[h.eq,allB_cons,List.append_assoc]
  have e2:q=bytesB y++(allB bs'++r'):=by rw[h'.eq,allB_cons,List.append_assoc]
  have g1:=getB_0 (h.ok x (.head _)) e1
  have g2:=getB_0 (h'.ok y (.head _)) e2
  rw[g1]at g2
  have hxy:x=y:=congrArg Prod.fst g2
  subst hxy
  rw[e1]at e2
  have e3:=List.append_cancel_left e2
  obtain⟨rfl,rfl⟩:=Scans.uniq (nx:=x.last+1) (q:=allB bs++r) ⟨rfl,fun z hz=>h.ok z (.tail _ hz),h.ord.2,h.stop⟩ ⟨e3,fun z hz=>h'.ok z (.tail _ hz),h'.ord.2,h'.stop⟩
  exact⟨rfl,rfl⟩
theorem Scans.is{s:Sg}{bs:List Batch}{r:List UInt8}(h:Scans s.base s.bytes bs r):scanB s=bs:=by
 obtain⟨r',h'⟩:=scan_spec s
 exact(h'.uniq h).1
theorem getB_drop{l:List UInt8}{a:Nat}:(getB l (a:Int)).1=(getB (l.drop a) 0).1∧(getB l (a:Int)).2.2=(getB (l.drop a) 0).2.2:=by
 have h1:getN l (a:Int) 4=getN (l.drop a) 0 4:=by
  unfold getN
  rw[if_neg (show ¬ (a:Int) < 0 by omega),if_neg (show ¬ (0:Int) < 0 by omega)]
  simp only[Int.toNat_natCast,Int.toNat_zero,List.drop_zero]
 have h2:l.drop (a+4)=(l.drop a).drop 4:=by rw[List.drop_drop]
 unfold getB
 rw[h1]
 simp only[Int.toNat_natCast,h2,Int.toNat_zero,Nat.zero_add]
 split
 ·split
  ·split
   ·split
    ·split <;> exact⟨rfl,rfl⟩
    ·exact⟨rfl,rfl⟩
   ·exact⟨rfl,rfl⟩
  ·exact⟨rfl,rfl⟩
 ·exact⟨rfl,rfl⟩
theorem allB_take_le(l:List Batch)(k:Nat):(allB (l.take k)).length≤(allB l).length:=by
 conv=>rhs;rw[← List.take_append_drop k l,allB_app,List.length_append]
 omega
theorem Scans.len{nx:Int}{q r:List UInt8}{bs:List Batch}(h:Scans nx q bs r):9 * bs.length≤(allB bs).length∧(allB bs).length≤q.length:=by
 refine⟨?_,by rw[h.eq,List.length_append];omega⟩
 clear h
 induction bs with
 | nil=>simp
 | cons x bs ih =>
  have:=bytesB_pos x
  rw[allB_cons,List.length_append,List.length_cons]
  omega
theorem Scans.at_{nx:Int}{q r:List UInt8}{bs:List Batch}(h:Scans nx q bs r){k:Nat}{x:Batch}(hx:bs[k]?=some x):
  getB q (((allB (bs.take k)).length:Nat):Int)=(x,(((allB (bs.take (k+1))).length:Nat):Int),0)∧nextB nx (bs.take k)≤x.base∧nextB nx (bs.take (k+1))=x.last+1∧errB x=0:=by
 have hd:q.drop (allB (bs.take k)).length=bytesB x++(allB (bs.drop (k+1))++r):=by
  have:=allB_drop hx
  rw[h.eq,List.drop_append_of_le_length (allB_take_le _ _),this,List.append_assoc]
 obtain⟨hk,he⟩:=List.getElem?_eq_some_iff.1 hx
 have e1:bs=bs.take k++(x :: bs.drop (k+1)):=by
  conv=>lhs;rw[← List.take_append_drop k bs,List.drop_eq_getElem_cons hk,he]
 have ho:=h.ord
 rw[e1,ordB_app]at ho
 have h0:=h.ok x (List.mem_of_getElem? hx)
 refine⟨?_,ho.2.1,?_,h0⟩
 ·rw[getB_at h0 hd,allB_take hx,List.length_append]
 ·rw[List.take_add_one,hx]
  show nextB nx (bs.take k++[x])=_
  rw[nextB_app]
  rfl
theorem Scans.end_{nx:Int}{q r:List UInt8}{bs:List Batch}(h:Scans nx q bs r):¬ (getB q (((allB bs).length:Nat):Int)).2.2=0∨(getB q (((allB bs).length:Nat):Int)).1.base < nextB nx bs:=by
 have hs:=h.stop
 have hd:=@getB_drop q (allB bs).length
 have e:q.drop (allB bs).length=r:=by rw[h.eq,List.drop_left]
 rw[e]at hd
 rw[hd.1,hd.2]
 unfold moreB at hs
 by_cases h0:(getB r 0).2.2=0
 ·right
  have:¬ nextB nx bs≤(getB r 0).1.base:=fun hh=>hs ⟨h0,hh⟩
  omega
 ·exact .inl h0
theorem F151:Fun Tryz.prog 151 4 v151 c151 o151:=Fun.mkA Tryz.func151 Tryz.ntmps151
theorem F177:Fun Tryz.prog 177 37 v177 c177 o177:=Fun.mkA Tryz.func177 Tryz.ntmps177
theorem F131:Fun Tryz.prog 131 17 v131 c131 o131:=Fun.mkA Tryz.func131 Tryz.ntmps131
theorem F114:Fun Tryz.prog 114 15 v114 c114 o114:=Fun.mkA Tryz.func114 Tryz.ntmps114
theorem rmR_no{s:Nat}:∀ {L:List Kx.Item},NoRegs L→rmR s L=L
 | [],_=>rfl
 | .reg s' cs :: L,h=>absurd (.head _) (h s' cs)
 | .blk b cs :: L,h=>congrArg (Kx.Item.blk b cs :: ·) (rmR_no (s:=s) fun s cs hm=>h s cs (.tail _ hm))
 | .row v e sz n xs :: L,h=>congrArg (Kx.Item.row v e sz n xs :: ·) (rmR_no (s:=s) fun s cs hm=>h s cs (.tail _ hm))
 | .obj b o :: L,h=>congrArg (Kx.Item.obj b o :: ·) (rmR_no (s:=s) fun s cs hm=>h s cs (.tail _ hm))
theorem gx_ne{h:H}{b b':Nat}{c c':List Value}(hs:List.Sublist [Kx.Item.blk b c,.blk b' c'] h.L):GhostX h fun h'=>h'=h∧¬ b=b':=GhostX.fact fun β w s=>by
 have hd:(dom β [Kx.Item.blk b c,.blk b' c']).Sublist (dom β h.L):=hs.filterMap _
 have:=hd.nodup (List.nodup_append.1 s.nd).1
 simpa [dom,Item.block]using this
theorem cells_imp{α:Type}{E E':α→List Value→Prop}{sz:Nat}{xs:List α}{ys:List Value}(h:Cells E sz xs ys)(hE:∀ x cs,E x cs→E' x cs):Cells E' sz xs ys:=by
 induction h with
 | nil=>exact .nil
 | cons h1 h2 _ ih=>exact .cons (hE _ _ h1) h2 ih
def cellS(s:Sg)(A:Option Addr)(c:Nat):List Value:=[.int .i64 s.base,.slice A s.bytes.length c]
def SE(G:Nat→Option Obj)(s:Sg)(cs:List Value):Prop:=∃ A c,cs=cellS s A c∧SB G (.slice A s.bytes.length c) s.bytes∧I64 s.base
theorem SE.le{G G':Nat→Option Obj}(hg:Gle G G'){s:Sg}{cs:List Value}(h:SE G s cs):SE G' s cs:=by
 obtain⟨A,c,h1,h2,h3⟩:=h
 exact⟨A,c,h1,SB.le h2 hg,h3⟩
def EB(bs:List Batch)(G:Nat→Option Obj)(k:Nat)(args:Array Value):Prop:=∃ x cs,bs[k]?=some x∧BE G x cs∧args=#[.agg cs.toArray,.int .i64 (((allB (bs.take (k+1))).length:Nat):Int)]
theorem last_i{x:Batch}(h:errB x=0):IntKind.i64.wrap (x.last+1)=x.last+1:=by
 obtain⟨⟨-,f2,-⟩,-⟩:=(errB_ok h).1
 simp[rng]at f2
 rw[w64_id] <;> omega
theorem range_at{n k i:Nat}(h:(List.range n)[k]?=some i):i=k∧k < n:=by
 have h1:=(List.getElem?_eq_some_iff.1 h).1
 rw[List.length_range]at h1
 rw[List.getElem?_range h1]at h
 cases h
 exact⟨rfl,h1⟩
theorem each1_iter(s:Sg)(A:Option Addr)(c b:Nat)(G0:Nat→Option Obj)(hl:SB G0 (.slice A s.bytes.length c) s.bytes)(hb:s.bytes.length≤1000000)(h0:cellG G0 ⟨b,0,none⟩=some (.int .i64 s.base))(h1:cellG G0 ⟨b,1,none⟩=some (.slice A s.bytes.length c)):
  IterH Tryz.prog 177 #[.pointer (some ⟨b,0,none⟩)] (List.range (scanB s).length) (EB (scanB s)) G0:=by
 obtain⟨r,hsc⟩:=scan_spec s
 generalize scanB s=bs at hsc
 intro yl I Ix G L hG hn hI hIx hmo hi0 hy L2 D
 have hargs:(#[.func (.yield yl) #[] #[]]++#[.pointer (some ⟨b,0,none⟩)]:Array Value)=#[.func (.yield yl) #[] #[],.pointer (some ⟨b,0,none⟩)]:=rfl
 rw[hargs,List.length_range]
 refine(F177.calls (R:=fun _ h=>Gle G h.G∧(I bs.length h.G h.L∨∃ i,i < bs.length∧Ix i h.G h.L)) (by simp) hn (go_of ?_) L2 D).mono ?_
 rotate_left
 ·rintro v h' ⟨G',L',rfl,hn',hgg,hr⟩
  exact⟨G',L',rfl,hgg,hn',hr⟩
 have e0:=cellG_le hG h0
 have e1:=cellG_le hG h1
 have hlG:=SB.le hl hG
 have hlen:=hsc.len
 unfold c177
 (intros;try refine go_st ?_);refine go_q 8 10 (by decide) ?_;refine sJ c177r0.eq_1 ?_
 refine⟨_,⟨_,rfl,.g e0⟩,?_⟩
 refine sI ?_
 (intros;try refine go_st ?_)
 refine go_loop (fun e h=>∃ (t:Nat) (G':Nat→Option Obj) (L' Lh:List Kx.Item),(t≤bs.length∧Gle G G'∧NoRegs L'∧I t G' L')∧e 3=.int .i64 (((allB (bs.take t)).length:Nat):Int)∧e 4=.int .i64 (nextB s.base (bs.take t))∧e 0=.func (.yield yl) #[] #[]∧e 1=.pointer (some ⟨b,0,none⟩)∧h=⟨G',Lh,[]⟩∧L'.Sublist Lh) (fun e h=>s.bytes.length+1 - iv (e 3)) ?_ ?_
 ·exact⟨0,G,L,L,⟨Nat.zero_le _,.refl G,hn,hi0⟩,rfl,rfl,eE,eE,rfl,List.Sublist.refl _⟩
 rintro e h ⟨t,G',L',Lh,⟨ht,hgg,hn',hI'⟩,e3,e4,e00,e11,rfl,hsub⟩
 refine go_keep [0,1,3,4] ?_
 refine sJ4 @e00 @e11 @e3 @e4 ?_
 intros
 refine go_ghost (ghost_sub hsub) ?_
 have hrm:=rmR_no (s:=5) hn'
 have e1':=cellG_le hgg e1
 have hget:=BGet_ok s.bytes (((allB (bs.take t)).length:Nat):Int) _ G' (SB.le hlG hgg) hb
 unfold GetBR at hget
 have htk:=allB_take_le bs t
 have hw1:IntKind.i64.wrap (((allB (bs.take t)).length:Nat):Int)=(((allB (bs.take t)).length:Nat):Int):=by rw[w64_id] <;> omega
 intros;refine gr 10 18 ?_;refine sJ c177r1.eq_1 ?_
 refine⟨_,⟨_,rfl,.g e1'⟩,?_⟩
 refine sI ?_
 refine(hget _ _).mono ?_
 rintro v h' ⟨G1,rfl,hg1,cs,rfl,hbe⟩
 by_cases htl:t < bs.length
 ·obtain⟨x,hx⟩:∃ x,bs[t]?=some x:=⟨bs[t],List.getElem?_eq_getElem htl⟩
  obtain⟨a1,a2,a3,a4⟩:=hsc.at_ hx
  rw[a1]at hbe ⊢
  dsimp only at hbe ⊢
  have hbe0:=hbe
  obtain⟨B,d,rfl,-⟩:=hbe
  have hlt:(allB (bs.take t)).length < (allB (bs.take (t+1))).length:=by
   have:=bytesB_pos x
   rw[allB_take hx,List.length_append]
   omega
  have hle:=allB_take_le bs (t+1)
  have hEB:EB bs G1 t #[.agg (cellH x (.slice B x.recs.length d)).toArray,.int .i64 (((allB (bs.take (t+1))).length:Nat):Int)]:=⟨x,_,hx,hbe0,rfl⟩
  unfold cellH at hbe0 hEB ⊢
  generalize hn1:(allB (bs.take (t+1))).length=n1 at *
  generalize (allB (bs.take t)).length=n0 at *
  have a2':decide (x.base < nextB s.base (bs.take t))=false:=decide_eq_false (by omega)
  have hlw:=last_i a4
  refine sJ @hrm ?_
  have hz:decide ((0:Int)≠0)=false:=by decide
  intros;refine gr 18 32 ?_;refine sJ3 c177r2.eq_1 @hz @a2' ?_
  refine .inr ⟨yl,rfl,?_⟩
  refine YieldH.ghost (ghost_perm (List.perm_append_comm (l₁:=[_]))) ?_
  refine(hy t t _ G1 L' (List.getElem?_range htl) (hgg.trans hg1) hEB (hmo _ _ _ _ hg1 hI') [_] []).mono ?_
  rintro v h' ⟨G2,L3,rfl,hg2,hn2,hr⟩
  rcases hr with⟨rfl,hr⟩ | ⟨rfl,hr⟩
  ·refine sI ?_
   intros;refine gc ?_;refine sI ?_
   refine go_ghost (ghost_perm (List.perm_append_comm (l₂:=[_]))) ?_
   (intros;try refine go_st ?_);refine go_q 33 37 (by decide) ?_;refine sJ2 c177r3.eq_1 @hlw ?_
   (intros;try refine go_st ?_)
   refine go_l ⟨⟨t+1,G2,L3,_,⟨by omega,(hgg.trans hg1).trans hg2,hn2,hr⟩,(eJ @hn1),(eJ @a3),eE,eE,rfl,.cons _ (List.Sublist.refl _)⟩,?_⟩
   refine sI ?_
   omega
  ·refine sI ?_
   intros;refine gc ?_;refine sI ?_
   (intros;try refine go_st ?_)
   refine go_ret (retQ_o L3 rfl (List.sublist_append_left _ _) hn2 ?_)
   exact⟨(hgg.trans hg1).trans hg2,.inr ⟨t,htl,hr⟩⟩
 ·have htl:t=bs.length:=by omega
  subst htl
  rw[List.take_length]at hget hbe ⊢
  have hend:=hsc.end_
  generalize getB s.bytes (((allB bs).length:Nat):Int)=q at *
  obtain⟨x,nx,er⟩:=q
  dsimp only at hbe hend ⊢
  obtain⟨B,d,rfl,-⟩:=hbe
  unfold cellH
  have hfin:Gle G G1∧(I bs.length G1 L'∨∃ i,i < bs.length∧Ix i G1 L'):=⟨hgg.trans hg1,.inl (hmo _ _ _ _ hg1 hI')⟩
  refine sJ @hrm ?_
  intros;refine gr 18 32 ?_;refine sJ c177r2.eq_1 ?_
  refine gd (fun k1=>?_) (fun k1=>?_)
  ·refine sI ?_
   intros;refine gc ?_;refine sI ?_
   (intros;try refine go_st ?_)
   exact go_ret (retQ_o L' rfl (.cons _ (List.Sublist.refl _)) hn' hfin)
  ·have k1:er=0:=by simpa using k1
   have k2:decide (x.base < nextB s.base bs)=true:=decide_eq_true (by rcases hend with h | h;exact absurd k1 h;exact h)
   refine sJ @k2 ?_
   intros;refine gc ?_;refine sI ?_
   (intros;try refine go_st ?_)
   exact go_ret (retQ_o L' rfl (.cons _ (List.Sublist.refl _)) hn' hfin)
theorem each_ok(s:Sg)(cs:List Value)(G:Nat→Option Obj)(hs:SE G s cs)(hb:s.bytes.length≤1000000):
  FnD Tryz.prog 151 #[.agg cs.toArray] G (fun G' r=>∃ b,r=.func (.func 177) #[] #[.pointer (some ⟨b,0,none⟩)]∧IterH Tryz.prog 177 #[.pointer (some ⟨b,0,none⟩)] (List.range (scanB s).length) (EB (scanB s)) G'):=by
 obtain⟨A,c,rfl,hl,hi⟩:=hs
 refine F151.fnD (by simp) (go_of ?_)
 unfold c151 cellS
 intros;refine gr 0 0 ?_;refine sJ c151r0.eq_1 ?_
 intro b1 hb1
 (intros;try refine go_st ?_)
 refine go_gx gx_blk ?_
 rintro h' ⟨G1,rfl,hg1,hc1⟩
 have e0:=hc1 0 _ rfl
 have e1:=hc1 1 _ rfl
 rw[add_off]at e0 e1
 intros;refine gr 3 4 ?_;refine sJ c151r1.eq_1 ?_
 intros;refine rV ?_;simp only[push_cast,Nat.reduceBEq]
 exact⟨b1,rfl,each1_iter s A c b1 G1 (SB.le hl hg1) hb e0 e1⟩
def ScanR(s:Sg)(G':Nat→Option Obj)(L':List Kx.Item)(r:Value):Prop:=∃ u zc,r=.tuple #[u,.int .i64 ((goodB s:Nat):Int)]∧Cells (BE G') 10 (scanB s) zc∧L'=[.row u 43 10 (scanB s).length zc]
theorem Scan_ok(s:Sg)(cs:List Value)(G:Nat→Option Obj)(hs:SE G s cs)(hb:s.bytes.length≤1000000):FnO Tryz.prog 131 #[.agg cs.toArray] G [] (fun G' L' r=>ScanR s G' L' r):=by
 have hs0:=hs
 obtain⟨A,c,rfl,hl,hi⟩:=hs
 refine F131.fnO (by simp) noRegs_nil (go_of ?_)
 unfold c131
 unfold cellS at hs0 ⊢
 intros;refine gr 0 0 ?_;refine sJ c131r0.eq_1 ?_
 intro b1 hb1 b2 hb2 b3 hb3
 (intros;try refine go_st ?_)
 refine go_gx (gx_blk_at [_,_] _) ?_
 rintro h' ⟨G1,rfl,hg1,f1⟩
 have e0:=f1 0 _ rfl
 have e1:=f1 1 _ rfl
 rw[add_off]at e0 e1
 intros;refine gr 6 7 ?_;refine sJ c131r1.eq_1 ?_
 refine⟨_,⟨_,[.int .i64 s.base,.slice A s.bytes.length c],rfl,rfl,rfl,fun j u hu=>.g (f1 j u hu)⟩,?_⟩
 refine sI ?_
 refine(each_ok s _ G1 (SE.le hg1 hs0) hb _ _).mono ?_
 rintro r h' ⟨G2,rfl,hg2,b,rfl,hit⟩
 obtain⟨rr,hsc⟩:=scan_spec s
 have hSR:∀ G' u zc,Cells (BE G') 10 (scanB s) zc→ScanR s G' [.row u 43 10 (scanB s).length zc] (.tuple #[u,.int .i64 (((allB (scanB s)).length:Nat):Int)]):=fun G' u zc h=>⟨u,zc,rfl,h,rfl⟩
 generalize scanB s=bs at hit hsc hSR
 have hlen:=hsc.len
 refine sI ?_
 (intros;try refine go_st ?_)
 refine go_ghost (ghost_nil none 43 10) ?_
 refine go_rf (α:=Nat) (fun k G' L'=>∃ u zc,L'=[.row u 43 10 (bs.take k).length zc,.blk b3 [.int .i64 (((allB (bs.take k)).length:Nat):Int)],.blk b2 [u]]∧Cells (BE G') 10 (bs.take k) zc) (fun _ _ _ _=>False) (eE) F177.enters (noRegs_row (noRegs_blk (noRegs_blk noRegs_nil)))
  (fun i G G' L hg ⟨u,zc,h1,h2⟩=>⟨u,zc,h1,cells_imp h2 fun _ _ h=>BE.le hg h⟩) hit (fun G x args h=>by obtain⟨y,_,_,_,rfl⟩:=h;rfl) ⟨_,[],rfl,.nil⟩ ?_ ?_ ?_
 ·rintro yl k i args G' L' hki hgl ⟨x,cs,hx,hbe,rfl⟩ ⟨u,zc,rfl,hzc⟩ _
  obtain⟨rfl,hkl⟩:=range_at hki
  have hbe0:=hbe
  obtain⟨B,d,rfl,-⟩:=hbe
  unfold cellH at hbe0 ⊢
  refine sI ?_
  intros;refine gr 0 0 ?_;refine sJ c131r2.eq_1 ?_
  intros;refine gr 0 0 ?_;refine sJ c131r3.eq_1 ?_
  intro bb
  refine go_nil (rnd_a ?_)
  have htk:bs.take (i+1)=bs.take i++[x]:=by rw[List.take_add_one,hx];rfl
  have hkl2:(bs.take i).length≤bs.length:=by rw[List.length_take];omega
  intros;refine gr 10 15 ?_;refine sJ c131r4.eq_1 ?_
  refine⟨_,ldN_blk (.tail _ (.tail _ (.tail _ (.head _)))) rfl,?_⟩
  refine sI ?_
  intro bk hbk
  refine app1 (L1:=[_]) (L2:=[_,_]) (E:=BE G') (x:=x) rfl hbe0 rfl (by simp[Value.oneCell']) hzc (by omega) (by omega) fun A' c' zc' hzc'=>?_
  rw[← htk]at hzc' ⊢
  refine sI ?_
  refine stX_blk [_,_,_,_] [] rfl (by simp) ⟨rfl,rfl⟩ ?_
  refine sI ?_
  refine stX_blk [_,_,_] [_] rfl (by simp) ⟨rfl,rfl⟩ ?_
  refine sI ?_
  (intros;try refine go_st ?_)
  refine go_nil (rnd_n _ (.cons _ (.cons _ (List.Sublist.refl _))) (noRegs_row (noRegs_blk (noRegs_blk noRegs_nil))) ⟨_,zc',rfl,hzc'⟩)
 ·rintro G' L' dd hgl ⟨u,zc,rfl,hzc⟩ _
  rw[List.length_range]at hzc ⊢
  rw[List.take_length]at hzc ⊢
  (intros;try refine go_st ?_)
  refine go_gx (gx_knowS (.head _)) ?_
  rintro h' ⟨rfl,A2,c2,rfl,-,-⟩
  refine go_gx (gx_ne (.cons _ (List.Sublist.refl _))) ?_
  rintro h' ⟨rfl,hne⟩
  (intros;try refine go_st ?_);refine go_w _ (List.Sublist.refl _) (by decide) ?_;refine sJ c131r5.eq_1 ?_
  refine⟨_,ldN_blk (.tail _ (.tail _ (.head _))) rfl,?_⟩
  refine sI ?_
  refine⟨_,ldN_blk (.tail _ (.head _)) rfl,?_⟩
  refine sI ?_
  refine stX_blk [_,_] [] rfl (by simp) ⟨rfl,rfl⟩ ?_
  refine sI ?_
  refine stX_blk [_] [_] rfl (by simp) ⟨rfl,rfl⟩ ?_
  refine sI ?_
  (intros;try refine go_st ?_)
  refine go_ret (retQ_o (out:=[.slice A2 bs.length c2,.int .i64 (((allB bs).length:Nat):Int)]) _ ?_ (.cons_cons _ (List.nil_sublist _)) (noRegs_row noRegs_nil) (hSR G' _ _ hzc))
  simp[o131,resV,Kx.getB,blkO,ldC,Env.set,hne]
 ·rintro ex i G' L' d _ _ h
  exact h.elim
theorem nextB_at{bs:List Batch}{k:Nat}{x:Batch}(nx:Int)(hx:bs[k]?=some x):nextB nx (bs.take (k+1))=x.last+1:=by
 rw[List.take_add_one,hx]
 show nextB nx (bs.take k++[x])=_
 rw[nextB_app]
 rfl
theorem End_ok(s:Sg)(cs:List Value)(G:Nat→Option Obj)(hs:SE G s cs)(hb:s.bytes.length≤1000000):FnS Tryz.prog 114 #[.agg cs.toArray] G (.int .i64 (endB s)):=by
 have hs0:=hs
 obtain⟨A,c,rfl,hl,hi⟩:=hs
 refine F114.fnS (by simp) (go_of ?_)
 unfold c114
 unfold cellS at hs0 ⊢
 intros;refine gr 0 0 ?_;refine sJ c114r0.eq_1 ?_
 intro b1 hb1
 (intros;try refine go_st ?_)
 refine go_gx gx_blk ?_
 rintro h' ⟨G1,rfl,hg1,f1⟩
 have e0:=f1 0 _ rfl
 rw[add_off]at e0
 intros;refine gr 5 7 ?_;refine sJ c114r1.eq_1 ?_
 refine⟨_,⟨_,rfl,.g e0⟩,?_⟩
 refine sI ?_
 intro b3 hb3
 refine stX_blk [] [] rfl (by simp) ⟨rfl,rfl⟩ ?_
 refine sI ?_
 intros;refine gr 7 8 ?_;refine sJ c114r2.eq_1 ?_
 refine⟨_,⟨_,[.int .i64 s.base,.slice A s.bytes.length c],rfl,rfl,rfl,fun j u hu=>.g (f1 j u hu)⟩,?_⟩
 refine sI ?_
 refine(each_ok s _ G1 (SE.le hg1 hs0) hb _ _).mono ?_
 rintro r h' ⟨G2,rfl,hg2,b,rfl,hit⟩
 obtain⟨rr,hsc⟩:=scan_spec s
 have hend:endB s=nextB s.base (scanB s):=rfl
 generalize scanB s=bs at hit hsc hend
 refine sI ?_
 (intros;try refine go_st ?_)
 refine go_rf (α:=Nat) (fun k G' L'=>L'=[.blk b3 [.int .i64 (nextB s.base (bs.take k))]]) (fun _ _ _ _=>False) (eE) F177.enters (noRegs_blk noRegs_nil)
  (fun i G G' L hg h=>h) hit (fun G x args h=>by obtain⟨y,_,_,_,rfl⟩:=h;rfl) rfl ?_ ?_ ?_
 ·rintro yl k i args G' L' hki hgl ⟨x,cs,hx,hbe,rfl⟩ rfl _
  obtain⟨rfl,hkl⟩:=range_at hki
  obtain⟨B,d,rfl,-⟩:=hbe
  have hlw:=last_i (hsc.ok x (List.mem_of_getElem? hx))
  unfold cellH
  refine sI ?_
  intros;refine gr 0 0 ?_;refine sJ c114r3.eq_1 ?_
  intro bb
  refine go_nil (rnd_a ?_)
  intros;refine gr 12 14 ?_;refine sJ2 c114r4.eq_1 @hlw ?_
  refine stX_blk [_] [] rfl (by simp) ⟨rfl,rfl⟩ ?_
  refine sI ?_
  (intros;try refine go_st ?_)
  refine go_nil (rnd_n [.blk b3 [.int .i64 (x.last+1)]] (.cons _ (List.Sublist.refl _)) (noRegs_blk noRegs_nil) ?_)
  rw[nextB_at s.base hx]
 ·rintro G' L' dd hgl rfl _
  rw[List.length_range,List.take_length,← hend]
  intros;refine gr 14 15 ?_;refine sJ c114r5.eq_1 ?_
  refine⟨_,ldN_blk (.head _) rfl,?_⟩
  refine sI ?_
  intros;refine rV ?_;simp only[push_cast,Nat.reduceBEq]
 ·rintro ex i G' L' d _ _ h
  exact h.elim
end Go.Proofs.YtpmofpekcbghnaaGreat
namespace Go.Proofs.YtpmofpekcbghnaaGreat
open Go Go.Kx Go.RowKit
theorem opens_seg(W:World):Opens Tryz.prog W 120 (SE (allG W)):=fun H enc fuel cs x hx=>by
 obtain⟨hl,hf⟩:=opens_fields Tryz.underlying120 (by kernel_rfl) (by kernel_rfl) hx
 obtain⟨v0,_,_,c0,t0⟩:=hf 0 _ rfl
 obtain⟨v1,_,_,c1,t1⟩:=hf 1 _ rfl
 obtain⟨n0,e0,w0⟩:=(opens_int Tryz.underlying3).at_ t0
 obtain⟨n1,A,c,e1,w1⟩:=(opens_bytes W).at_ t1
 cases e0;cases e1
 refine⟨⟨n0,n1⟩,A,c,?_,⟨A,c,rfl,w1⟩,wf_i64 w0⟩
 match cs,hl with
 | [_,_],_=>cases c0;cases c1;rfl
end Go.Proofs.YtpmofpekcbghnaaGreat
namespace Go.Proofs.YtpmofpekcbghnaaGreat
open Go Go.Kx
theorem F172:Fun Tryz.prog 172 13 v172 c172 o172:=Fun.mkA Tryz.func172 Tryz.ntmps172
theorem F155:Fun Tryz.prog 155 9 v155 c155 o155:=Fun.mkA Tryz.func155 Tryz.ntmps155
theorem F156:Fun Tryz.prog 156 9 v156 c156 o156:=Fun.mkA Tryz.func156 Tryz.ntmps156
theorem F158:Fun Tryz.prog 158 10 v158 c158 o158:=Fun.mkA Tryz.func158 Tryz.ntmps158
theorem F181:Fun Tryz.prog 181 27 v181 c181 o181:=Fun.mkA Tryz.func181 Tryz.ntmps181
theorem F157:Fun Tryz.prog 157 36 v157 c157 o157:=Fun.mkA Tryz.func157 Tryz.ntmps157
theorem ownK_sl{α:Type}{P:Program}{f:FuncId}{args:Array Value}{G:Nat→Option Obj}{E:α→List Value→Prop}{et sz:Nat}{zs:List α}(hf:FnO P f args G [] (fun _ L' r=>OwnL E et sz zs L' r)):
  FnO P f args G [] (fun _ L' r=>∃ A c ys,r=.slice A zs.length c∧(zs.length≤c∧c≤maxLen)∧Cells E sz zs ys∧L'=[.row r et sz zs.length ys]):=fun L D =>
 (hf L D).gx fun v h' ⟨G',L',he,hg,ys,hc,hL⟩=>by
  subst he hL
  exact(gx_knowS (.head _)).mono fun h' ⟨h1,A,c,h2,h3,h4⟩=>⟨G',_,h1,hg,A,c,ys,h2,⟨h3,h4⟩,hc,rfl⟩
def noneS:Sg:=⟨0,[]⟩
def OwnSg(s:Sg)(L':List Kx.Item)(r:Value):Prop:=∃ u zc,r=.agg #[.int .i64 s.base,u]∧L'=[.row u 5 1 s.bytes.length zc]∧Cells UE 1 s.bytes zc
def OwnSE(p:Sg × Int)(L':List Kx.Item)(r:Value):Prop:=∃ u zc,r=.tuple #[.agg #[.int .i64 p.1.base,u],.int .i64 p.2]∧L'=[.row u 5 1 p.1.bytes.length zc]∧Cells UE 1 p.1.bytes zc
def limO(n:Int):Bool:=decide (1≤n) && decide (n≤4096)
theorem based_ok(n:Int)(G:Nat→Option Obj):FnS Tryz.prog 155 #[.int .i64 n] G (.bool (inO n)):=by
 refine F155.fnS (by simp) (go_of ?_)
 unfold c155
 intros;refine gr 0 0 ?_;refine sJ c155r0.eq_1 ?_
 intros;refine gr 3 9 ?_;refine sJ c155r1.eq_1 ?_
 refine gd (fun h=>?_) (fun h=>?_)
 ·have h:=of_decide_eq_true h
  refine sI ?_
  intros;refine rV ?_;simp only[push_cast,Nat.reduceBEq]
  rw[inO,decide_eq_true h,Bool.true_and]
 ·have h:=of_decide_eq_false h
  refine sI ?_
  intros;refine rV ?_;simp only[push_cast,Nat.reduceBEq]
  rw[inO,decide_eq_false h,Bool.false_and]
theorem limited_ok(n:Int)(G:Nat→Option Obj):FnS Tryz.prog 156 #[.int .i64 n] G (.bool (limO n)):=by
 refine F156.fnS (by simp) (go_of ?_)
 unfold c156
 intros;refine gr 0 0 ?_;refine sJ c156r0.eq_1 ?_
 intros;refine gr 3 9 ?_;refine sJ c156r1.eq_1 ?_
 refine gd (fun h=>?_) (fun h=>?_)
 ·have h:=of_decide_eq_true h
  refine sI ?_
  intros;refine rV ?_;simp only[push_cast,Nat.reduceBEq]
  rw[limO,decide_eq_true h,Bool.true_and]
 ·have h:=of_decide_eq_false h
  refine sI ?_
  intros;refine rV ?_;simp only[push_cast,Nat.reduceBEq]
  rw[limO,decide_eq_false h,Bool.false_and]
def newS(base:Int):Sg × Int:=if inO base=true then(⟨base,[]⟩,0)else(noneS,1)
theorem New_ok(base:Int)(G:Nat→Option Obj):FnO Tryz.prog 158 #[.int .i64 base] G [] (fun _ L' r=>OwnSE (newS base) L' r):=by
 refine F158.fnO (by simp) noRegs_nil (go_of ?_)
 unfold c158
 intros;refine gr 0 0 ?_;refine sJ c158r0.eq_1 ?_
 intros;refine gr 4 6 ?_;refine sJ c158r1.eq_1 ?_
 refine(based_ok _ _ _ _).mono ?_;rintro _ _ ⟨rfl,rfl⟩;refine sI ?_
 intros;refine gc ?_;refine sI ?_
 refine gb (fun h=>?_) (fun h=>?_)
 ·have h:¬ inO base=true:=by simpa using h
  intros;refine gr 7 8 ?_;refine sJ c158r2.eq_1 ?_
  (intros;try refine go_st ?_)
  refine go_ghost (ghost_nil none 5 1) ?_
  refine go_ret (retQ_o _ rfl (.cons_cons _ (List.nil_sublist _)) (noRegs_row noRegs_nil) ?_)
  rw[newS,if_neg h]
  exact⟨_,[],rfl,rfl,.nil⟩
 ·have h:inO base=true:=by simpa using h
  intros;refine gN ?_
  intros;refine gr 8 10 ?_;refine sJ c158r3.eq_1 ?_
  (intros;try refine go_st ?_)
  refine go_ghost (ghost_nil none 5 1) ?_
  refine go_ret (retQ_o _ rfl (.cons_cons _ (List.nil_sublist _)) (noRegs_row noRegs_nil) ?_)
  rw[newS,if_pos h]
  exact⟨_,[],rfl,rfl,.nil⟩
theorem Grow_ok(n:Nat)(G:Nat→Option Obj)(hn:n≤1000000):FnO Tryz.prog 181 #[.slice none 0 0,.int .i64 (n:Int)] G [] (fun _ L' r=>OwnB [] L' r):=by
 refine F181.fnO (by simp) noRegs_nil (go_of ?_)
 unfold c181
 have w1:IntKind.i64.wrap ((n:Int) - IntKind.i64.wrap (0 - 0))=(n:Int):=by simp only[IntKind.wrap_i64];omega
 have h0:decide ((n:Int) < 0)=false:=decide_eq_false (by omega)
 intros;refine gr 0 0 ?_;refine sJ c181r0.eq_1 ?_
 intros;refine gr 5 6 ?_;refine sJ2 c181r1.eq_1 @h0 ?_
 intros;refine gc ?_;refine sI ?_
 intros;refine gN ?_
 intros;refine gr 8 15 ?_;refine sJ2 c181r2.eq_1 @w1 ?_
 intros;refine gr 15 16 ?_;refine sJ c181r3.eq_1 ?_
 intros
 refine go_ghost (ghost_nil none 5 1) ?_
 refine go_cut (fun e h=>∃ A c m zc Lh,e 0=.slice A 0 c∧h=⟨G,Lh,[]⟩∧[Kx.Item.row (.slice A m c) 5 1 m zc].Sublist Lh) ?_ ?_
 ·intros;refine gc ?_;refine sI ?_
  refine gb (fun h1=>?_) (fun h1=>?_)
  ·have h1:=of_decide_eq_true h1
   intros;refine gr 17 26 ?_;refine sJ c181r4.eq_1 ?_
   refine⟨by omega,?_⟩
   refine⟨n,⟨rfl,rfl⟩,⟨by omega,by omega,by unfold maxLen;omega⟩,?_⟩
   intro g c zs hg
   refine sI ?_
   refine⟨by omega,?_⟩
   refine sI ?_
   (intros;try refine go_st ?_)
   exact go_l ⟨_,c,n,zs,_,rfl,rfl,.cons_cons _ (List.nil_sublist _)⟩
  ·(intros;try refine go_st ?_)
   exact go_l ⟨none,0,0,[],_,eE,rfl,List.Sublist.refl _⟩
 rintro e h ⟨A,c,m,zc,Lh,e0,rfl,hsub⟩
 refine go_keep [0] ?_
 refine sJ @e0 ?_
 intros
 intros;try refine go_seq ?_
 refine go_ghost (ghost_sub hsub) ?_
 refine go_ghost (ghost_cut (L1:=[]) (L2:=[]) (m:=0) (Nat.zero_le _)) ?_
 intros;refine gr 26 27 ?_;refine sJ c181r5.eq_1 ?_
 (intros;try refine go_st ?_)
 refine go_ret (retQ_o _ rfl (List.Sublist.refl _) (noRegs_row noRegs_nil) ?_)
 refine⟨[],.nil,?_⟩
 simp
 rfl
theorem ahead_ok(s:Sg)(n:Nat)(cs:List Value)(G:Nat→Option Obj)(hs:SE G s cs)(hb:s.bytes.length≤1000000)(hn:n≤s.bytes.length):
  FnO Tryz.prog 172 #[.agg cs.toArray,.int .i64 (n:Int)] G [] (fun _ L' r=>OwnSg ⟨s.base,s.bytes.take n⟩ L' r):=by
 obtain⟨A,c,rfl,hl,hi⟩:=hs
 refine F172.fnO (by simp) noRegs_nil (go_of ?_)
 have hpre:=SlV.pre n hl hn
 obtain⟨A0,c0,he,h1,h2,h3⟩:=hl
 cases he
 unfold c172 cellS
 intros;refine gr 0 0 ?_;refine sJ c172r0.eq_1 ?_
 (intros;try refine go_st ?_);refine go_y _ (List.Sublist.refl _) (by decide) ?_;refine sJ c172r1.eq_1 ?_
 refine⟨by omega,?_⟩
 refine(ownK_sl (Clone_ok _ _ G hpre (by simp;omega)) _ _).mono ?_
 rintro r h' ⟨G1,L',rfl,hg1,A1,c1,ys,rfl,-,hys,rfl⟩
 refine⟨grow_L hg1 (.cons _ (List.Sublist.refl _)),?_⟩
 refine sI ?_
 refine sJ c172r2.eq_1 ?_
 (intros;try refine go_st ?_)
 refine go_ret (retQ_o _ rfl (.cons_cons _ (List.nil_sublist _)) (noRegs_row noRegs_nil) ?_)
 exact⟨_,ys,rfl,rfl,hys⟩
def EBs(G:Nat→Option Obj)(l:List UInt8)(cs:List Value):Prop:=∃ v,cs=[v]∧SB G v l
theorem flat_take{ll:List (List UInt8)}{k:Nat}{l:List UInt8}(h:ll[k]?=some l):(ll.take (k+1)).flatten=(ll.take k).flatten++l:=by
 rw[List.take_add_one,h]
 simp
theorem flat_le(ll:List (List UInt8))(k:Nat):(ll.take k).flatten.length≤ll.flatten.length:=by
 conv=>rhs;rw[← List.take_append_drop k ll,List.flatten_append,List.length_append]
 omega
theorem Concat_ok(ll:List (List UInt8))(v:Value)(G:Nat→Option Obj)(hl:SlV G (EBs G) 1 v ll)(hb:ll.flatten.length≤1000000):FnO Tryz.prog 157 #[v] G [] (fun _ L' r=>OwnB ll.flatten L' r):=by
 obtain⟨A,c,rfl,hc,hm,hA⟩:=hl
 refine F157.fnO (by simp) noRegs_nil (go_of ?_)
 unfold c157
 intros;refine gr 0 0 ?_;refine sJ c157r0.eq_1 ?_
 intros;refine gr 0 0 ?_;refine sJ c157r1.eq_1 ?_
 intros;refine gr 0 0 ?_;refine sJ c157r2.eq_1 ?_
 intros
 intros;try refine go_seq ?_
 refine go_cut (fun e h=>e 3=.int .i64 ((ll.flatten.length:Nat):Int)∧e 0=.slice A ll.length c∧h=⟨G,[],[]⟩) ?_ ?_
 ·(intros;try refine go_st ?_)
  refine go_loop (fun e h=>∃ k:Nat,k≤ll.length∧e 11=.int .i64 k∧e 10=.int .i64 ll.length∧e 9=.slice A ll.length c∧e 0=.slice A ll.length c∧e 3=.int .i64 (((ll.take k).flatten.length:Nat):Int)∧h=⟨G,[],[]⟩) (fun e h=>ll.length - iv (e 11)) ?_ ?_
  ·exact⟨0,Nat.zero_le _,eE,eE,eE,eE,rfl,rfl⟩
  rintro e h ⟨k,hk,e11,e10,e9,e0,e3,rfl⟩
  refine go_keep [0,3,9,10,11] ?_
  refine sJ5 @e0 @e3 @e9 @e10 @e11 ?_
  intros;refine gr 0 0 ?_;refine sJ c157r3.eq_1 ?_
  intros;refine gc ?_;refine sI ?_
  refine gb (fun ht=>?_) (fun ht=>?_)
  ·have ht:k < ll.length:=by have:=of_decide_eq_true ht;omega
   have hw:=inc_i k c (by omega) hm
   obtain⟨x,hx⟩:∃ x,ll[k]?=some x:=⟨ll[k],List.getElem?_eq_getElem (by omega)⟩
   have h1:=flat_take hx
   have h2:=flat_le ll (k+1)
   have h3:(ll.take (k+1)).flatten.length=(ll.take k).flatten.length+x.length:=by rw[h1,List.length_append]
   generalize hn1:(ll.take (k+1)).flatten.length=n1 at *
   generalize (ll.take k).flatten.length=n0 at *
   have hw2:IntKind.i64.wrap ((n0:Int)+(x.length:Int))=(n1:Int):=by rw[w64_id] <;> omega
   have hneg:decide ((n1:Int) < 0)=false:=decide_eq_false (by omega)
   intros;refine gN ?_
   intros;refine gr 13 15 ?_;refine sJ c157r4.eq_1 ?_
   refine hA.x_l1 hx rfl rfl ?_
   rintro a1 ha1 u ⟨u',hu,B,d,rfl,-⟩
   cases hu
   refine sI ?_
   intros;refine gr 15 19 ?_;refine sJ2 c157r5.eq_1 @hw2 ?_
   intros;refine gr 19 20 ?_;refine sJ2 c157r6.eq_1 @hneg ?_
   intros;refine gc ?_;refine sI ?_
   intros;refine gN ?_
   intros;refine gr 22 23 ?_;refine sJ2 c157r7.eq_1 @hw ?_
   (intros;try refine go_st ?_)
   refine go_l ⟨⟨k+1,by omega,eE,eE,eE,eE,(eJ @hn1),rfl⟩,?_⟩
   refine sI ?_
   omega
  ·have ht:k=ll.length:=by have:=of_decide_eq_false ht;omega
   subst ht
   have htk:ll.take ll.length=ll:=List.take_length
   refine go_exit ?_
   refine sI ?_
   intros;refine gN ?_
   exact go_l ⟨(eJ @htk),eE,rfl⟩
 rintro e h ⟨e3,e0,rfl⟩
 refine go_keep [0,3] ?_
 refine sJ2 @e0 @e3 ?_
 intros
 intros;refine gr 23 25 ?_;refine sJ c157r8.eq_1 ?_
 refine(ownK_sl (Grow_ok ll.flatten.length G hb) _ []).mono ?_
 rintro r h' ⟨G1,L',rfl,hg1,A1,c1,ys,rfl,-,hys,rfl⟩
 refine sI ?_
 intros;refine gr 0 0 ?_;refine sJ c157r9.eq_1 ?_
 intros
 have hA1:=hA.le hg1 (E':=EBs G1) fun _ _ ⟨u,h1,h2⟩=>⟨u,h1,SB.le h2 hg1⟩
 refine go_cut (fun e h=>∃ u zc,Cells UE 1 ll.flatten zc∧e 6=u∧h=⟨G1,[.row u 5 1 ll.flatten.length zc],[]⟩) ?_ ?_
 ·(intros;try refine go_st ?_)
  refine go_loop (fun e h=>∃ (k:Nat) (u:Value) (zc:List Value),(k≤ll.length∧Cells UE 1 (ll.take k).flatten zc)∧e 27=.int .i64 k∧e 26=.int .i64 ll.length∧e 25=.slice A ll.length c∧e 6=u∧h=⟨G1,[.row u 5 1 (ll.take k).flatten.length zc],[]⟩) (fun e h=>ll.length - iv (e 27)) ?_ ?_
  ·exact⟨0,_,ys,⟨Nat.zero_le _,hys⟩,eE,eE,eE,eE,rfl⟩
  rintro e h ⟨k,u,zc,⟨hk,hzc⟩,e27,e26,e25,e6,rfl⟩
  refine go_keep [6,25,26,27] ?_
  refine sJ4 @e6 @e25 @e26 @e27 ?_
  intros;refine gr 0 0 ?_;refine sJ c157r10.eq_1 ?_
  intros;refine gc ?_;refine sI ?_
  refine gb (fun ht=>?_) (fun ht=>?_)
  ·have ht:k < ll.length:=by have:=of_decide_eq_true ht;omega
   have hw:=inc_i k c (by omega) hm
   obtain⟨x,hx⟩:∃ x,ll[k]?=some x:=⟨ll[k],List.getElem?_eq_getElem (by omega)⟩
   have h1:=flat_take hx
   have h2:=flat_le ll (k+1)
   have h3:(ll.take (k+1)).flatten.length=(ll.take k).flatten.length+x.length:=by rw[h1,List.length_append]
   intros;refine gN ?_
   intros;refine gr 29 31 ?_;refine sJ c157r11.eq_1 ?_
   refine hA1.x_l1 hx rfl rfl ?_
   rintro a1 ha1 u1 ⟨u',hu,hsb⟩
   cases hu
   refine sI ?_
   intros;refine gr 31 34 ?_;refine sJ c157r12.eq_1 ?_
   refine apX_v (L1:=[]) (.inl rfl) hsb rfl UE1 (by unfold maxLen;omega) fun ys1 A2 c2 hc2=>?_
   have hh:=hzc.app hc2
   rw[← h1]at hh
   rw[← h3]
   refine sI ?_
   intros;refine gN ?_
   intros;refine gr 34 35 ?_;refine sJ2 c157r13.eq_1 @hw ?_
   (intros;try refine go_st ?_)
   refine go_l ⟨⟨k+1,_,_,⟨by omega,hh⟩,eE,eE,eE,eE,rfl⟩,?_⟩
   refine sI ?_
   omega
  ·have ht:k=ll.length:=by have:=of_decide_eq_false ht;omega
   subst ht
   rw[List.take_length]at hzc ⊢
   refine go_exit ?_
   refine sI ?_
   intros;refine gN ?_
   exact go_l ⟨u,zc,hzc,eE,rfl⟩
 rintro e h ⟨u,zc,hzc,e6,rfl⟩
 refine go_keep [6] ?_
 refine sJ @e6 ?_
 intros
 intros;refine gr 35 36 ?_;refine sJ c157r14.eq_1 ?_
 (intros;try refine go_st ?_)
 refine go_ret (retQ_o _ rfl (List.Sublist.refl _) (noRegs_row noRegs_nil) ?_)
 exact⟨zc,hzc,rfl⟩
theorem F121:Fun Tryz.prog 121 69 v121 c121 o121:=Fun.mkA Tryz.func121 Tryz.ntmps121
def appS(s:Sg)(x:Batch)(limit:Int):Sg × Int :=
 if goodB s=s.bytes.length∧inO s.base=true∧limO limit=true then
  if errB x=0 then
   if x.base < endB s then(noneS,71)
   else if limit < ((s.bytes.length+(bytesB x).length:Nat):Int)then(noneS,70)
   else(⟨s.base,s.bytes++bytesB x⟩,0)
  else(noneS,errB x)
 else(noneS,1)
theorem appS_1{s:Sg}{x:Batch}{limit:Int}(h:¬ (goodB s=s.bytes.length∧inO s.base=true∧limO limit=true)):appS s x limit=(noneS,1):=if_neg h
theorem appS_e{s:Sg}{x:Batch}{limit:Int}(h:goodB s=s.bytes.length∧inO s.base=true∧limO limit=true)(h1:¬ errB x=0):appS s x limit=(noneS,errB x):=by rw[appS,if_pos h,if_neg h1]
theorem appS_o{s:Sg}{x:Batch}{limit:Int}(h:goodB s=s.bytes.length∧inO s.base=true∧limO limit=true)(h1:errB x=0)(h2:x.base < endB s):appS s x limit=(noneS,71):=by rw[appS,if_pos h,if_pos h1,if_pos h2]
theorem appS_r{s:Sg}{x:Batch}{limit:Int}(h:goodB s=s.bytes.length∧inO s.base=true∧limO limit=true)(h1:errB x=0)(h2:¬ x.base < endB s)(h3:limit < ((s.bytes.length+(bytesB x).length:Nat):Int)):appS s x limit=(noneS,70):=by rw[appS,if_pos h,if_pos h1,if_neg h2,if_pos h3]
theorem appS_0{s:Sg}{x:Batch}{limit:Int}(h:goodB s=s.bytes.length∧inO s.base=true∧limO limit=true)(h1:errB x=0)(h2:¬ x.base < endB s)(h3:¬ limit < ((s.bytes.length+(bytesB x).length:Nat):Int)):appS s x limit=(⟨s.base,s.bytes++bytesB x⟩,0):=by rw[appS,if_pos h,if_pos h1,if_neg h2,if_neg h3]
theorem goodB_le(s:Sg):goodB s≤s.bytes.length:=by
 obtain⟨r,h⟩:=scan_spec s
 exact h.len.2
theorem Append_ok(s:Sg)(x:Batch)(limit:Int)(cs ds:List Value)(G:Nat→Option Obj)(hs:SE G s cs)(hb:s.bytes.length≤100000)(hx:BE G x ds)(hi:I64 limit):
  FnO Tryz.prog 121 #[.agg cs.toArray,.agg ds.toArray,.int .i64 limit] G [] (fun _ L' r=>OwnSE (appS s x limit) L' r):=by
 have hscan:=Scan_ok s cs G hs (by omega)
 have hput:=BPut_ok x ds G hx
 have hs0:=hs
 have hx0:=hx
 obtain⟨A,c,rfl,hl,hib⟩:=hs
 obtain⟨B,d,rfl,-⟩:=hx
 have hgl:=goodB_le s
 refine F121.fnO (by simp) noRegs_nil (go_of ?_)
 unfold c121
 unfold cellS at hscan hs0 ⊢
 unfold cellH at hput hx0 ⊢
 intros;refine gr 0 0 ?_;refine sJ c121r0.eq_1 ?_
 intros;refine gr 12 17 ?_;refine sJ c121r1.eq_1 ?_
 refine(hscan _ _).mono ?_
 rintro r h' ⟨G1,L',rfl,hg1,u,zc,rfl,-,rfl⟩
 refine sI ?_
 intros
 refine go_ghost (ghost_sub (.cons _ (List.Sublist.refl _))) ?_
 intros;try refine go_seq ?_
 have hbad:∀ (fr:List Td) (e:Env) (X:List Kx.Item) (Y:List Value),¬ (goodB s=s.bytes.length∧inO s.base=true∧limO limit=true)→go none Tryz.prog 69 v121.1 v121.2 (retQ o121 fun v h=>OwnSE (appS s x limit) h.L v) (Td.s ((SC.reg false c121r3).seq .ret) :: fr) e ⟨G1,.reg 6 [.int .i64 0,.slice none 0 0] :: X,[]⟩:=fun fr e X Y hn=>by
  intros;refine gr 33 34 ?_;refine sJ c121r3.eq_1 ?_
  (intros;try refine go_st ?_)
  refine go_ghost (ghost_nil none 5 1) ?_
  refine go_ret (retQ_o _ rfl (.cons_cons _ (List.nil_sublist _)) (noRegs_row noRegs_nil) ?_)
  rw[appS_1 hn]
  exact⟨_,[],rfl,rfl,.nil⟩
 intros;refine gr 17 32 ?_;refine sJ c121r2.eq_1 ?_
 refine gd (fun k1=>?_) (fun k1=>?_)
 ·refine sI ?_
  intros;refine gc ?_;refine sI ?_
  exact hbad _ _ _ [] fun h=>of_decide_eq_true k1 (by rw[h.1])
 have k1:goodB s=s.bytes.length:=by have:=of_decide_eq_false k1;omega
 refine sI ?_
 refine(based_ok _ _ _ _).mono ?_;rintro _ _ ⟨rfl,rfl⟩;refine sI ?_
 refine gd (fun k2=>?_) (fun k2=>?_)
 ·refine sI ?_
  intros;refine gc ?_;refine sI ?_
  exact hbad _ _ _ [] fun h=>by rw[h.2.1]at k2;cases k2
 have k2:inO s.base=true:=by simpa using k2
 refine sI ?_
 refine(limited_ok _ _ _ _).mono ?_;rintro _ _ ⟨rfl,rfl⟩;refine sI ?_
 intros;refine gc ?_;refine sI ?_
 refine gb (fun k3=>?_) (fun k3=>?_)
 ·exact hbad _ _ _ [] fun h=>by rw[h.2.2]at k3;cases k3
 have k3:limO limit=true:=by simpa using k3
 clear hbad
 have hok:goodB s=s.bytes.length∧inO s.base=true∧limO limit=true:=⟨k1,k2,k3⟩
 intros;refine gN ?_
 have hput:=BPut_ok x _ G1 (BE.le hg1 hx0)
 intros;refine gr 34 39 ?_;refine sJ c121r4.eq_1 ?_
 refine(hput _ _).mono ?_
 rintro r h' ⟨G2,L',rfl,hg2,w,rfl,ys,hys,rfl⟩
 refine sI ?_
 intros;try refine go_seq ?_
 refine go_gx (gx_slv_at [] _ (by decide) hys) ?_
 rintro h' ⟨G3,rfl,hg3,hv3⟩
 have hg03:=hg1.trans (hg2.trans hg3)
 by_cases he:errB x=0
 rotate_left
 ·rw[putB_n he]at hv3 ⊢
  intros;refine gr 40 42 ?_;refine sJ c121r5.eq_1 ?_
  intros;refine gc ?_;refine sI ?_
  refine gb (fun k4=>?_) (fun k4=>absurd (of_decide_eq_false k4) (by simpa using he))
  intros;refine gr 42 44 ?_;refine sJ c121r6.eq_1 ?_
  (intros;try refine go_st ?_)
  refine go_ghost (ghost_nil none 5 1) ?_
  refine go_ret (retQ_o _ rfl (.cons_cons _ (List.nil_sublist _)) (noRegs_row noRegs_nil) ?_)
  rw[appS_e hok he]
  exact⟨_,[],rfl,rfl,.nil⟩
 rw[putB_0 he]at hv3 ⊢
 have hv3:SB G3 w (bytesB x):=hv3
 have hbl:=(errB_ok he).2
 have hz:decide ((0:Int)≠0)=false:=by decide
 intros;refine gr 40 42 ?_;refine sJ2 c121r5.eq_1 @hz ?_
 intros;refine gc ?_;refine sI ?_
 intros;refine gN ?_
 (intros;try refine go_st ?_);refine go_x _ (List.Sublist.refl _) (by decide) ?_;refine sJ c121r7.eq_1 ?_
 refine(End_ok s _ G3 (SE.le hg03 hs0) (by omega) _ _).mono ?_;rintro _ _ ⟨rfl,rfl⟩;refine sI ?_
 intros;refine gc ?_;refine sI ?_
 refine gb (fun k5=>?_) (fun k5=>?_)
 ·have k5:=of_decide_eq_true k5
  intros;refine gr 50 51 ?_;refine sJ c121r8.eq_1 ?_
  (intros;try refine go_st ?_)
  refine go_ghost (ghost_nil none 5 1) ?_
  refine go_ret (retQ_o _ rfl (.cons_cons _ (List.nil_sublist _)) (noRegs_row noRegs_nil) ?_)
  rw[appS_o hok he k5]
  exact⟨_,[],rfl,rfl,.nil⟩
 have k5:=of_decide_eq_false k5
 have hw:IntKind.i64.wrap ((s.bytes.length:Int)+((bytesB x).length:Int))=((s.bytes.length+(bytesB x).length:Nat):Int):=by rw[w64_id] <;> omega
 have hsb3:=hv3
 obtain⟨A3,c3,rfl,-⟩:=hv3
 intros;refine gr 53 60 ?_;refine sJ2 c121r9.eq_1 @hw ?_
 intros;refine gc ?_;refine sI ?_
 refine gb (fun k6=>?_) (fun k6=>?_)
 ·have k6:=of_decide_eq_true k6
  intros;refine gr 60 61 ?_;refine sJ c121r10.eq_1 ?_
  (intros;try refine go_st ?_)
  refine go_ghost (ghost_nil none 5 1) ?_
  refine go_ret (retQ_o _ rfl (.cons_cons _ (List.nil_sublist _)) (noRegs_row noRegs_nil) ?_)
  rw[appS_r hok he k5 k6]
  exact⟨_,[],rfl,rfl,.nil⟩
 have k6:=of_decide_eq_false k6
 have h0:=appS_0 hok he k5 k6
 have hll:Cells (EBs G3) 1 [s.bytes,bytesB x] [.slice A s.bytes.length c,.slice A3 (bytesB x).length c3]:=.cons (cs:=[_]) ⟨_,rfl,SB.le hl hg03⟩ rfl (.one ⟨_,rfl,hsb3⟩ rfl)
 intros;refine gN ?_
 (intros;try refine go_st ?_);refine go_y _ (List.Sublist.refl _) (by decide) ?_;refine sJ c121r11.eq_1 ?_
 intro bk hbk
 refine⟨grow_L (fun _ _ h=>h) (.cons _ (List.Sublist.refl _)),?_⟩
 refine callsH_gx F157.enters (gx_slv_at [] _ (by decide) hll) ?_
 rintro h' ⟨G5,rfl,hg5,hv5⟩
 refine(ownK_sl (Concat_ok [s.bytes,bytesB x] _ G5 (hv5.le (.refl _) fun _ _ ⟨v,h1,h2⟩=>⟨v,h1,SB.le h2 hg5⟩) (by simp;omega)) _ _).mono ?_
 rintro r h' ⟨G6,L',rfl,hg6,A6,c6,zc6,rfl,-,hzc6,rfl⟩
 have hfl:[s.bytes,bytesB x].flatten=s.bytes++bytesB x:=by simp
 rw[hfl]at hzc6 ⊢
 refine⟨grow_L (hg5.trans hg6) (.cons _ (List.Sublist.refl _)),?_⟩
 refine sI ?_
 refine sJ c121r12.eq_1 ?_
 (intros;try refine go_st ?_)
 refine go_ret (retQ_o _ rfl (.cons_cons _ (List.nil_sublist _)) (noRegs_row noRegs_nil) ?_)
 rw[h0]
 exact⟨_,zc6,rfl,rfl,hzc6⟩
theorem F123:Fun Tryz.prog 123 44 v123 c123 o123:=Fun.mkA Tryz.func123 Tryz.ntmps123
theorem F143:Fun Tryz.prog 143 19 v143 c143 o143:=Fun.mkA Tryz.func143 Tryz.ntmps143
theorem F190:Fun Tryz.prog 190 20 v190 c190 o190:=Fun.mkA Tryz.func190 Tryz.ntmps190
def SegR(p:Sg × Int)(G:Nat→Option Obj)(r:Value):Prop:=∃ A c,r=.tuple #[.agg #[.int .i64 p.1.base,.slice A p.1.bytes.length c],.int .i64 p.2]∧SB G (.slice A p.1.bytes.length c) p.1.bytes
theorem ownSE_sl{P:Program}{f:FuncId}{args:Array Value}{G:Nat→Option Obj}{p:Sg × Int}(hf:FnO P f args G [] (fun _ L' r=>OwnSE p L' r)):
  FnO P f args G [] (fun _ L' r=>∃ A c zc,r=.tuple #[.agg #[.int .i64 p.1.base,.slice A p.1.bytes.length c],.int .i64 p.2]∧(p.1.bytes.length≤c∧c≤maxLen)∧L'=[.row (.slice A p.1.bytes.length c) 5 1 p.1.bytes.length zc]∧Cells UE 1 p.1.bytes zc):=fun L D =>
 (hf L D).gx fun v h' ⟨G',L',he,hg,u,zc,h1,h2,h3⟩=>by
  subst he h2
  refine(gx_knowS (.head _)).mono fun h' ⟨e1,A,c,e2,e3,e4⟩=>?_
  subst e2
  exact⟨G',_,e1,hg,A,c,zc,h1,⟨e3,e4⟩,rfl,h3⟩
theorem ownSE_d{P:Program}{f:FuncId}{args:Array Value}{G:Nat→Option Obj}{p:Sg × Int}(hf:FnO P f args G [] (fun _ L' r=>OwnSE p L' r)):FnD P f args G (SegR p) :=
 FnO.fnD (L1:=[]) (ownSE_sl hf) fun G' L' v ⟨A,c,zc,h1,_,h2,h3⟩ _ L D=>by
  subst h2
  exact(gx_slv (by decide) h3).mono fun h' ⟨G2,e1,e2,e3⟩=>⟨G2,e1,e2,A,c,h1,e3⟩
theorem ownSg_sl{P:Program}{f:FuncId}{args:Array Value}{G:Nat→Option Obj}{s:Sg}(hf:FnO P f args G [] (fun _ L' r=>OwnSg s L' r)):
  FnO P f args G [] (fun _ L' r=>∃ A c zc,r=.agg #[.int .i64 s.base,.slice A s.bytes.length c]∧(s.bytes.length≤c∧c≤maxLen)∧L'=[.row (.slice A s.bytes.length c) 5 1 s.bytes.length zc]∧Cells UE 1 s.bytes zc):=fun L D =>
 (hf L D).gx fun v h' ⟨G',L',he,hg,u,zc,h1,h2,h3⟩=>by
  subst he h2
  refine(gx_knowS (.head _)).mono fun h' ⟨e1,A,c,e2,e3,e4⟩=>?_
  subst e2
  exact⟨G',_,e1,hg,A,c,zc,h1,⟨e3,e4⟩,rfl,h3⟩
def ofL(limit:Int):Sg→List Batch→Sg × Int
 | s,[]=>(s,0)
 | s,b :: bs=>if (appS s b limit).2=0 then ofL limit (appS s b limit).1 bs else(noneS,(appS s b limit).2)
def ofS(base:Int)(l:List Batch)(limit:Int):Sg × Int:=if (newS base).2=0∧limO limit=true then ofL limit (newS base).1 l else(noneS,1)
theorem appS_ok{s:Sg}{x:Batch}{limit:Int}(h:(appS s x limit).2=0):(goodB s=s.bytes.length∧inO s.base=true∧limO limit=true)∧errB x=0∧endB s≤x.base∧((s.bytes.length+(bytesB x).length:Nat):Int)≤limit∧appS s x limit=(⟨s.base,s.bytes++bytesB x⟩,0):=by
 unfold appS at h ⊢
 split at h <;> rename_i h1
 ·split at h <;> rename_i h2
  ·split at h <;> rename_i h3
   ·cases h
   ·split at h <;> rename_i h4
    ·cases h
    ·exact⟨h1,h2,by omega,by omega,by rw[if_pos h1,if_pos h2,if_neg h3,if_neg h4]⟩
  ·exact absurd h h2
 ·cases h
theorem appS_none{s:Sg}{x:Batch}{limit:Int}(h:¬ (appS s x limit).2=0):(appS s x limit).1=noneS:=by
 unfold appS at h ⊢
 split at h <;> rename_i h1
 ·split at h <;> rename_i h2
  ·split at h <;> rename_i h3
   ·rw[if_pos h1,if_pos h2,if_pos h3]
   ·split at h <;> rename_i h4
    ·rw[if_pos h1,if_pos h2,if_neg h3,if_pos h4]
    ·exact absurd rfl h
  ·rw[if_pos h1,if_neg h2]
 ·rw[if_neg h1]
theorem limO_iff{n:Int}:limO n=true↔1≤n∧n≤4096:=by simp[limO]
theorem noneS_seg{p:Int}{G:Nat→Option Obj}:SegR (noneS,p) G (.tuple #[.agg #[.int .i64 0,.slice none 0 0],.int .i64 p]):=⟨none,0,rfl,SB.nil⟩
theorem Of_ok(base limit:Int)(l:List Batch)(v:Value)(G:Nat→Option Obj)(hl:SlV G (BE G) 10 v l)(hbi:I64 base)(hli:I64 limit):FnD Tryz.prog 123 #[.int .i64 base,v,.int .i64 limit] G (SegR (ofS base l limit)):=by
 obtain⟨A,c,rfl,hc,hm,hA⟩:=hl
 refine F123.fnD (by simp) (go_of ?_)
 unfold c123
 intros;refine gr 0 0 ?_;refine sJ c123r0.eq_1 ?_
 intros;refine gr 12 17 ?_;refine sJ c123r1.eq_1 ?_
 refine(ownSE_d (New_ok base G) _ _).mono ?_
 rintro r h' ⟨G1,rfl,hg1,A1,c1,rfl,hs1⟩
 refine sI ?_
 have hbad:∀ (fr:List Td) (e:Env) (X:List Kx.Item),¬ ((newS base).2=0∧limO limit=true)→go none Tryz.prog 44 v123.1 v123.2 (retQ o123 fun v h=>SegR (ofS base l limit) h.G v) (Td.s ((SC.reg false c123r3).seq .ret) :: fr) e ⟨G1,[.reg 8 [.int .i64 (newS base).1.base,.slice A1 (newS base).1.bytes.length c1],.reg 6 [.int .i64 0,.slice none 0 0]],[]⟩:=fun fr e X hn=>by
  intros;refine gr 24 25 ?_;refine sJ c123r3.eq_1 ?_
  intros;refine rV ?_;simp only[push_cast,Nat.reduceBEq]
  rw[ofS,if_neg hn]
  exact noneS_seg
 intros;refine gr 17 23 ?_;refine sJ c123r2.eq_1 ?_
 refine gd (fun k1=>?_) (fun k1=>?_)
 ·refine sI ?_
  intros;refine gc ?_;refine sI ?_
  exact hbad _ _ [] fun h=>of_decide_eq_true k1 h.1
 have k1:(newS base).2=0:=by simpa using k1
 refine sI ?_
 refine(limited_ok _ _ _ _).mono ?_;rintro _ _ ⟨rfl,rfl⟩;refine sI ?_
 intros;refine gc ?_;refine sI ?_
 refine gb (fun k2=>?_) (fun k2=>?_)
 ·exact hbad _ _ [] fun h=>by rw[h.2]at k2;cases k2
 have k2:limO limit=true:=by simpa using k2
 clear hbad
 have hlim:=limO_iff.1 k2
 have hnew:newS base=(⟨base,[]⟩,0):=by
  unfold newS at k1 ⊢
  split at k1
  ·rename_i h;rw[if_pos h]
  ·cases k1
 have hof:ofS base l limit=ofL limit ⟨base,[]⟩ l:=by rw[ofS,if_pos ⟨k1,k2⟩,hnew]
 rw[hnew]at hs1 ⊢
 rw[hof]
 clear hof hnew k1
 dsimp only at hs1 ⊢
 intros;refine gN ?_
 intros;refine gr 0 0 ?_;refine sJ c123r4.eq_1 ?_
 intros
 refine go_cut (fun e h=>∃ (s:Sg) (G':Nat→Option Obj) (A':Option Addr) (c':Nat),(Gle G1 G'∧SB G' (.slice A' s.bytes.length c') s.bytes∧ofL limit ⟨base,[]⟩ l=(s,0))∧h=⟨G',[.reg 8 [.int .i64 s.base,.slice A' s.bytes.length c'],.reg 6 [.int .i64 0,.slice none 0 0]],[]⟩) ?_ ?_
 ·(intros;try refine go_st ?_)
  refine go_loop (fun e h=>∃ (k:Nat) (s:Sg) (G':Nat→Option Obj) (A':Option Addr) (c':Nat),(k≤l.length∧Gle G1 G'∧SB G' (.slice A' s.bytes.length c') s.bytes∧s.base=base∧s.bytes.length≤4096∧ofL limit ⟨base,[]⟩ l=ofL limit s (l.drop k))∧e 27=.int .i64 k∧e 26=.int .i64 l.length∧e 25=.slice A l.length c∧e 2=.int .i64 limit∧h=⟨G',[.reg 8 [.int .i64 s.base,.slice A' s.bytes.length c'],.reg 6 [.int .i64 0,.slice none 0 0]],[]⟩) (fun e h=>l.length - iv (e 27)) ?_ ?_
  ·exact⟨0,⟨base,[]⟩,G1,A1,c1,⟨Nat.zero_le _,.refl _,hs1,rfl,by simp,rfl⟩,eE,eE,eE,eE,rfl⟩
  rintro e h ⟨k,s,G2,A2,c2,⟨hk,hg2,hs2,hsb,hsl,hof⟩,e27,e26,e25,e2,rfl⟩
  refine go_keep [2,25,26,27] ?_
  refine sJ4 @e2 @e25 @e26 @e27 ?_
  intros;refine gr 0 0 ?_;refine sJ c123r5.eq_1 ?_
  intros;refine gc ?_;refine sI ?_
  refine gb (fun ht=>?_) (fun ht=>?_)
  ·have ht:k < l.length:=by have:=of_decide_eq_true ht;omega
   have hw:=inc_i k c (by omega) hm
   have hg02:=hg1.trans hg2
   obtain⟨x,hx⟩:∃ x,l[k]?=some x:=⟨l[k],List.getElem?_eq_getElem (by omega)⟩
   have hA2:=hA.le hg02 (E':=BE G) fun _ _ h=>h
   have hof2:ofL limit s (l.drop k)=if (appS s x limit).2=0 then ofL limit (appS s x limit).1 (l.drop (k+1))else(noneS,(appS s x limit).2):=by
    obtain⟨h1,h2⟩:=List.getElem?_eq_some_iff.1 hx
    rw[List.drop_eq_getElem_cons h1,h2,ofL]
   rw[hof2]at hof
   intros;refine gN ?_
   intros;refine gr 29 31 ?_;refine sJ c123r6.eq_1 ?_
   refine hA2.x_ld hx rfl rfl ?_
   rintro a1 ha1 cs hbe
   have hbe:=BE.le hg02 hbe
   have happ:=Append_ok s x limit _ cs G2 ⟨A2,c2,rfl,hs2,by rw[hsb];exact hbi⟩ (by omega) hbe hli
   obtain⟨B,d,rfl,-⟩:=hbe
   unfold cellH cellS at happ
   unfold cellH
   refine sI ?_
   intros;refine gr 31 38 ?_;refine sJ c123r7.eq_1 ?_
   refine(ownSE_d happ _ _).mono ?_
   rintro r h' ⟨G3,rfl,hg3,A3,c3,rfl,hs3⟩
   have hok:=@appS_ok s x limit
   have hno:=@appS_none s x limit
   generalize appS s x limit=q at hok hno hs3 hof
   obtain⟨s3,er⟩:=q
   dsimp only at hok hno hs3 hof
   refine sI ?_
   intros;refine gr 38 39 ?_;refine sJ c123r8.eq_1 ?_
   intros;refine gc ?_;refine sI ?_
   refine gb (fun k3=>?_) (fun k3=>?_)
   ·have k3:=of_decide_eq_true k3
    intros;refine gr 40 42 ?_;refine sJ c123r9.eq_1 ?_
    intros;refine rV ?_;simp only[push_cast,Nat.reduceBEq]
    rw[hof,if_neg k3]
    exact noneS_seg
   ·have k3:er=0:=by simpa using k3
    subst k3
    obtain⟨-,-,-,h4,h5⟩:=hok rfl
    have h5:s3=⟨s.base,s.bytes++bytesB x⟩:=congrArg Prod.fst h5
    rw[if_pos rfl]at hof
    have hl3:s3.bytes.length≤4096:=by rw[h5];simp only[List.length_append];omega
    have hb3:s3.base=base:=by rw[h5];exact hsb
    intros;refine gN ?_
    refine go_ghost (ghost_sub (L':=[.reg 8 [.int .i64 s3.base,.slice A3 s3.bytes.length c3],.reg 6 [.int .i64 0,.slice none 0 0]]) (.cons _ (List.Sublist.refl _))) ?_
    intros;refine gr 42 43 ?_;refine sJ2 c123r10.eq_1 @hw ?_
    (intros;try refine go_st ?_)
    refine go_l ⟨⟨k+1,s3,G3,A3,c3,⟨by omega,hg2.trans hg3,hs3,hb3,hl3,hof⟩,eE,eE,eE,eE,rfl⟩,?_⟩
    refine sI ?_
    omega
  ·have ht:k=l.length:=by have:=of_decide_eq_false ht;omega
   subst ht
   rw[List.drop_length,ofL]at hof
   refine go_exit ?_
   refine sI ?_
   intros;refine gN ?_
   exact go_l ⟨s,G2,A2,c2,⟨hg2,hs2,hof⟩,rfl⟩
 rintro e h ⟨s,G2,A2,c2,⟨hg2,hs2,hof⟩,rfl⟩
 intros
 intros;refine gr 43 44 ?_;refine sJ c123r11.eq_1 ?_
 intros;refine rV ?_;simp only[push_cast,Nat.reduceBEq]
 rw[hof]
 exact⟨A2,c2,rfl,hs2⟩
def fixS(s:Sg):Sg × Int:=(⟨s.base,s.bytes.take (goodB s)⟩,(s.bytes.length:Int) - (goodB s:Int))
theorem Fix_ok(s:Sg)(cs:List Value)(G:Nat→Option Obj)(hs:SE G s cs)(hb:s.bytes.length≤1000000):FnO Tryz.prog 143 #[.agg cs.toArray] G [] (fun _ L' r=>OwnSE (fixS s) L' r):=by
 have hscan:=Scan_ok s cs G hs hb
 have hs0:=hs
 obtain⟨A,c,rfl,hl,hib⟩:=hs
 have hgl:=goodB_le s
 refine F143.fnO (by simp) noRegs_nil (go_of ?_)
 unfold c143
 unfold cellS at hscan hs0 ⊢
 have hw:IntKind.i64.wrap ((s.bytes.length:Int) - (goodB s:Int))=(s.bytes.length:Int) - (goodB s:Int):=by rw[w64_id] <;> omega
 intros;refine gr 0 0 ?_;refine sJ c143r0.eq_1 ?_
 intros;refine gr 6 11 ?_;refine sJ c143r1.eq_1 ?_
 refine(hscan _ _).mono ?_
 rintro r h' ⟨G1,L',rfl,hg1,u,zc,rfl,-,rfl⟩
 refine sI ?_
 intros
 refine go_ghost (ghost_sub (.cons _ (List.Sublist.refl _))) ?_
 (intros;try refine go_st ?_);refine go_w _ (.cons _ (List.Sublist.refl _)) (by decide) ?_;refine sJ2 c143r2.eq_1 @hw ?_
 refine(ownSg_sl (ahead_ok s (goodB s) _ G1 (SE.le hg1 hs0) hb hgl) _ _).mono ?_
 rintro r h' ⟨G2,L',rfl,hg2,A2,c2,zc2,rfl,-,rfl,hzc2⟩
 refine⟨grow_L hg2 (.cons _ (.cons _ (List.Sublist.refl _))),?_⟩
 refine sI ?_
 refine⟨grow_L hg2 (.cons _ (.cons _ (List.Sublist.refl _))),?_⟩
 refine sI ?_
 (intros;try refine go_st ?_)
 refine go_ret (retQ_o _ rfl (.cons_cons _ (List.nil_sublist _)) (noRegs_row noRegs_nil) ?_)
 exact⟨_,zc2,rfl,rfl,hzc2⟩
def cutP(off:Int)(b:Batch):Bool:=decide (b.last < off)
def cutS(s:Sg)(off:Int):Sg:=⟨s.base,s.bytes.take (allB ((scanB s).takeWhile (cutP off))).length⟩
theorem tw_at{α:Type}{p:α→Bool}:∀ {l:List α} {k:Nat} {x:α},(∀ y∈l.take k,p y=true)→l[k]?=some x→p x=false→l.takeWhile p=l.take k
 | [],_,_,_,h,_=>by simp at h
 | y :: l,0,x,_,h,hp=>by
  simp at h
  subst h
  rw[List.takeWhile_cons,if_neg (by rw[hp];simp)]
  rfl
 | y :: l,k+1,x,ha,h,hp=>by
  rw[List.takeWhile_cons,if_pos (ha y (by simp)),List.take_succ_cons,tw_at (k:=k) (fun z hz=>ha z (by rw[List.take_succ_cons];exact .tail _ hz)) (by simpa using h) hp]
theorem tw_all{α:Type}{p:α→Bool}:∀ {l:List α},(∀ y∈l,p y=true)→l.takeWhile p=l
 | [],_=>rfl
 | y :: l,h=>by rw[List.takeWhile_cons,if_pos (h y (.head _)),tw_all fun z hz=>h z (.tail _ hz)]
theorem Cut_ok(s:Sg)(off:Int)(cs:List Value)(G:Nat→Option Obj)(hs:SE G s cs)(hb:s.bytes.length≤1000000)(ho:I64 off):FnO Tryz.prog 190 #[.agg cs.toArray,.int .i64 off] G [] (fun _ L' r=>OwnSg (cutS s off) L' r):=by
 have hs0:=hs
 obtain⟨A,c,rfl,hl,hi⟩:=hs
 refine F190.fnO (by simp) noRegs_nil (go_of ?_)
 unfold c190
 unfold cellS at hs0 ⊢
 intros;refine gr 0 0 ?_;refine sJ c190r0.eq_1 ?_
 intro b2 hb2 b3 hb3 b4 hb4
 (intros;try refine go_st ?_)
 refine go_gx (gx_blk_at [_,_] _) ?_
 rintro h' ⟨G1,rfl,hg1,f2⟩
 refine go_gx (gx_blk_at [_] _) ?_
 rintro h' ⟨G2,rfl,hg2,f3⟩
 have f2:=fun j u hu=>cellG_le hg2 (f2 j u hu)
 have e3:=f3 0 _ rfl
 rw[add_off]at e3
 have hg02:=hg1.trans hg2
 intros;refine gr 0 0 ?_;refine sJ c190r1.eq_1 ?_
 intro b5 hb5
 refine stX_blk [] [_] rfl (by simp) ⟨rfl,rfl⟩ ?_
 refine sI ?_
 intros;refine gr 8 9 ?_;refine sJ c190r2.eq_1 ?_
 refine⟨_,⟨_,[.int .i64 s.base,.slice A s.bytes.length c],rfl,rfl,rfl,fun j u hu=>.g (f2 j u hu)⟩,?_⟩
 refine sI ?_
 refine(each_ok s _ G2 (SE.le hg02 hs0) hb _ _).mono ?_
 rintro r h' ⟨G3,rfl,hg3,b,rfl,hit⟩
 obtain⟨rr,hsc⟩:=scan_spec s
 have hcut:cutS s off=⟨s.base,s.bytes.take (allB ((scanB s).takeWhile (cutP off))).length⟩:=rfl
 generalize scanB s=bs at hit hsc hcut
 have hlen:=hsc.len
 have hrest:∀ (fr:List Td) (e:Env) (G':Nat→Option Obj) (D:List Nat) (k:Nat),Gle G3 G'→bs.takeWhile (cutP off)=bs.take k→e 2=.pointer (some ⟨b2,0,none⟩)→e 5=.pointer (some ⟨b5,0,none⟩)→e 4=.pointer (some ⟨b4,0,none⟩) →
   go none Tryz.prog 20 v190.1 v190.2 (retQ o190 fun v h=>OwnSg (cutS s off) h.L v) (Td.s ((SC.reg false c190r7).seq .ret) :: fr) e ⟨G',[.blk b5 [.int .i64 (((allB (bs.take k)).length:Nat):Int)],.blk b4 [.int .i64 0,.slice none 0 0]],D⟩:=fun fr e G' D k hg htw e2 e5 e4=>by
  have hle:=allB_take_le bs k
  refine go_keep [2,4,5] ?_
  refine sJ3 @e2 @e4 @e5 ?_
  intros;refine gr 17 20 ?_;refine sJ c190r7.eq_1 ?_
  refine⟨_,⟨_,[.int .i64 s.base,.slice A s.bytes.length c],rfl,rfl,rfl,fun j u hu=>.g (cellG_le (hg3.trans hg) (f2 j u hu))⟩,?_⟩
  refine sI ?_
  refine⟨_,ldN_blk (.head _) rfl,?_⟩
  refine sI ?_
  refine(ownSg_sl (ahead_ok s (allB (bs.take k)).length _ G' (SE.le (hg02.trans (hg3.trans hg)) hs0) hb (by omega)) _ _).mono ?_
  rintro r h' ⟨G4,L',rfl,hg4,A4,c4,zc4,rfl,-,rfl,hzc4⟩
  refine sI ?_
  refine stX_blk [_,_] [] rfl (by simp) ⟨rfl,rfl⟩ ?_
  refine sI ?_
  (intros;try refine go_st ?_)
  refine go_gx (gx_ne (.cons _ (List.Sublist.refl _))) ?_
  rintro h' ⟨rfl,hne⟩
  refine go_ret (retQ_o (out:=[.agg #[.int .i64 s.base,.slice A4 (s.bytes.take (allB (bs.take k)).length).length c4]]) _ ?_ (.cons_cons _ (List.nil_sublist _)) (noRegs_row noRegs_nil) ?_)
  ·simp[o190,resV,Kx.getB,blkO,ldC,Env.set,hne]
   trace_state
  rw[hcut,htw]
  exact⟨_,zc4,rfl,rfl,hzc4⟩
 refine sI ?_
 (intros;try refine go_st ?_)
 refine go_rf (α:=Nat) (fun k G' L'=>L'=[.blk b5 [.int .i64 (((allB (bs.take k)).length:Nat):Int)],.blk b4 [.int .i64 0,.slice none 0 0]]∧∀ y∈bs.take k,cutP off y=true)
  (fun ex k G' L'=>ex=.exit 0∧L'=[.blk b5 [.int .i64 (((allB (bs.take k)).length:Nat):Int)],.blk b4 [.int .i64 0,.slice none 0 0]]∧bs.takeWhile (cutP off)=bs.take k) (eE) F177.enters (noRegs_blk (noRegs_blk noRegs_nil))
  (fun i G G' L hg h=>h) hit (fun G x args h=>by obtain⟨y,_,_,_,rfl⟩:=h;rfl) ⟨rfl,by simp⟩ ?_ ?_ ?_
 ·rintro yl k i args G' L' hki hgl ⟨x,cs,hx,hbe,rfl⟩ ⟨rfl,hall⟩ _
  obtain⟨rfl,hkl⟩:=range_at hki
  obtain⟨B,d,rfl,-⟩:=hbe
  have e3':=cellG_le (hg3.trans hgl) e3
  unfold cellH
  refine sI ?_
  intros;refine gr 0 0 ?_;refine sJ c190r3.eq_1 ?_
  intros;refine gr 0 0 ?_;refine sJ c190r4.eq_1 ?_
  intro bb
  refine go_nil (rnd_a ?_)
  intros;refine gr 13 15 ?_;refine sJ c190r5.eq_1 ?_
  refine⟨_,⟨_,rfl,.g e3'⟩,?_⟩
  refine sI ?_
  intros;refine gc ?_;refine sI ?_
  refine gb (fun h1=>?_) (fun h1=>?_)
  ·have h1:=of_decide_eq_true h1
   refine go_exit ?_
   refine sI ?_
   exact rnd_e _ (.cons _ (List.Sublist.refl _)) (noRegs_blk (noRegs_blk noRegs_nil)) ⟨rfl,rfl,tw_at hall hx (decide_eq_false (by omega))⟩
  ·have h1:=of_decide_eq_false h1
   have hcp:cutP off x=true:=decide_eq_true (by omega)
   intros;refine gN ?_
   intros;refine gr 16 17 ?_;refine sJ c190r6.eq_1 ?_
   refine stX_blk [_] [_] rfl (by simp) ⟨rfl,rfl⟩ ?_
   refine sI ?_
   (intros;try refine go_st ?_)
   refine go_nil (rnd_n _ (.cons _ (List.Sublist.refl _)) (noRegs_blk (noRegs_blk noRegs_nil)) ⟨rfl,fun y hy=>?_⟩)
   rw[List.take_add_one,hx]at hy
   rcases List.mem_append.1 hy with h | h
   ·exact hall y h
   ·simp at h;subst h;exact hcp
 ·rintro G' L' dd hgl ⟨rfl,hall⟩ _
  rw[List.length_range]at hall ⊢
  refine go_b ?_
  refine hrest _ _ _ _ _ hgl ?_ ?_ ?_ ?_
  ·rw[List.take_length]at hall ⊢
   exact tw_all hall
  ·(refine sI ?_;try with_reducible exact True.intro)
  ·(refine sI ?_;try with_reducible exact True.intro)
  ·(refine sI ?_;try with_reducible exact True.intro)
 ·rintro ex k G' L' d _ hgl ⟨rfl,rfl,htw⟩ _
  refine sI ?_
  refine hrest _ _ _ _ _ hgl htw ?_ ?_ ?_
  ·(refine sI ?_;try with_reducible exact True.intro)
  ·(refine sI ?_;try with_reducible exact True.intro)
  ·(refine sI ?_;try with_reducible exact True.intro)
theorem more_nil{nx:Int}:¬ moreB [] nx:=fun h=>by
 obtain⟨x,s,-,e,-⟩:=more_ok h
 have:=bytesB_pos x
 have h2:=congrArg List.length e
 simp at h2
 omega
theorem Scans.join{nx:Int}{r r':List UInt8}{bs ms:List Batch}(hok:∀ x∈bs,errB x=0)(ho:ordB nx bs)(h:Scans (nextB nx bs) r ms r'):Scans nx (allB bs++r) (bs++ms) r' :=
 ⟨by rw[allB_app,List.append_assoc,← h.eq],fun x hx=>(List.mem_append.1 hx).elim (hok x) (h.ok x),(ordB_app _ _ _).2 ⟨ho,h.ord⟩,by rw[nextB_app];exact h.stop⟩
theorem ordB_take{nx:Int}{bs:List Batch}(h:ordB nx bs)(k:Nat):ordB nx (bs.take k):=by
 rw[← List.take_append_drop k bs,ordB_app]at h
 exact h.1
theorem Scans.pre{nx:Int}{q r:List UInt8}{bs:List Batch}(h:Scans nx q bs r)(k:Nat):Scans nx (allB (bs.take k)) (bs.take k) [] :=
 ⟨(List.append_nil _).symm,fun x hx=>h.ok x (List.mem_of_mem_take hx),ordB_take h.ord k,more_nil⟩
theorem scan_snoc{s:Sg}{x:Batch}(hg:goodB s=s.bytes.length)(h0:errB x=0)(ho:endB s≤x.base):Scans s.base (s.bytes++bytesB x) (scanB s++[x]) []:=by
 obtain⟨r,h⟩:=scan_spec s
 have hr:s.bytes=allB (scanB s):=by
  have e:=h.eq
  have hl:=congrArg List.length e
  rw[List.length_append]at hl
  have:r=[]:=List.eq_nil_of_length_eq_zero (by unfold goodB at hg;omega)
  rw[this,List.append_nil]at e
  exact e
 have:=Scans.join (ms:=[x]) (r:=bytesB x) (r':=[]) h.ok h.ord ⟨by simp[allB],fun y hy=>by simp at hy;subst hy;exact h0,⟨ho,trivial⟩,more_nil⟩
 rw[← hr]at this
 exact this
theorem F132:Fun Tryz.prog 132 17 v132 c132 o132:=Fun.mkA Tryz.func132 Tryz.ntmps132
theorem F29:Fun Tryz.prog 29 27 v29 c29 o29:=Fun.mkA Tryz.func29 Tryz.ntmps29
theorem SSame_ok(s t:Sg)(cs ds:List Value)(G:Nat→Option Obj)(hs:SE G s cs)(ht:SE G t ds):FnS Tryz.prog 132 #[.agg cs.toArray,.agg ds.toArray] G (.bool (decide (s=t))):=by
 obtain⟨A,c,rfl,hl,hi⟩:=hs
 obtain⟨B,d,rfl,hm,hj⟩:=ht
 have hd:decide (s=t)=(decide (s.base=t.base) && decide (s.bytes=t.bytes)):=by
  rw[← Bool.decide_and]
  apply decide_eq_decide.2
  constructor
  ·rintro rfl;exact⟨rfl,rfl⟩
  ·rintro⟨h1,h2⟩;cases s;cases t;simp_all
 rw[hd]
 refine F132.fnS (by simp) (go_of ?_)
 unfold c132 cellS
 intros;refine gr 0 0 ?_;refine sJ c132r0.eq_1 ?_
 intros;refine gr 6 17 ?_;refine sJ c132r1.eq_1 ?_
 refine gd (fun k1=>?_) (fun k1=>?_)
 ·refine sI ?_
  refine(BSame_ok _ _ _ _ _ hl hm _ _).mono ?_;rintro _ _ ⟨rfl,rfl⟩;refine sI ?_
  intros;refine rV ?_;simp only[push_cast,Nat.reduceBEq]
  rw[k1,Bool.true_and]
 ·refine sI ?_
  intros;refine rV ?_;simp only[push_cast,Nat.reduceBEq]
  rw[k1,Bool.false_and]
theorem SameAll_ok(a b:List Batch)(v u:Value)(G:Nat→Option Obj)(ha:SlV G (BE G) 10 v a)(hb:SlV G (BE G) 10 u b):FnS Tryz.prog 29 #[v,u] G (.bool (decide (a=b))):=by
 obtain⟨A,c,rfl,hc,hm,hA⟩:=ha
 obtain⟨B,d,rfl,hd,hn,hB⟩:=hb
 refine F29.fnS (by simp) (go_of ?_)
 unfold c29
 intros;refine gr 0 0 ?_;refine sJ c29r0.eq_1 ?_
 intros;refine gr 6 10 ?_;refine sJ c29r1.eq_1 ?_
 intros;refine gc ?_;refine sI ?_
 refine gb (fun h1=>?_) (fun h1=>?_)
 ·have h1:=of_decide_eq_true h1
  intros;refine gr 0 0 ?_;refine sJ c29r2.eq_1 ?_
  intros;refine rV ?_;simp only[push_cast,Nat.reduceBEq]
  rw[decide_eq_false fun h=>h1 (by rw[h])]
 have h1:a.length=b.length:=by have:=of_decide_eq_false h1;omega
 intros;refine gN ?_
 intros;refine gr 11 12 ?_;refine sJ c29r3.eq_1 ?_
 (intros;try refine go_st ?_)
 refine go_loop (fun e h=>∃ k:Nat,(k≤a.length∧a.take k=b.take k)∧e 13=.int .i64 k∧e 12=.int .i64 a.length∧e 0=.slice A a.length c∧e 1=.slice B b.length d∧h=⟨G,[],[]⟩) (fun e h=>a.length - iv (e 13)) ?_ ?_
 ·exact⟨0,⟨Nat.zero_le _,rfl⟩,eE,eE,eE,eE,rfl⟩
 ·rintro e h ⟨k,⟨hk,htk⟩,e13,e12,e0,e1,rfl⟩
  refine go_keep [0,1,12,13] ?_
  refine sJ4 @e0 @e1 @e12 @e13 ?_
  intros;refine gr 0 0 ?_;refine sJ c29r4.eq_1 ?_
  intros;refine gc ?_;refine sI ?_
  refine gb (fun ht=>?_) (fun ht=>?_)
  ·have ht:k < a.length:=by have:=of_decide_eq_true ht;omega
   have hw:=inc_i k c (by omega) hm
   obtain⟨x,hx⟩:∃ x,a[k]?=some x:=⟨a[k],List.getElem?_eq_getElem (by omega)⟩
   obtain⟨y,hy⟩:∃ y,b[k]?=some y:=⟨b[k],List.getElem?_eq_getElem (by omega)⟩
   intros;refine gN ?_
   intros;refine gr 15 16 ?_;refine sJ c29r5.eq_1 ?_
   (intros;try refine go_st ?_);refine go_x _ (List.Sublist.refl _) (by decide) ?_;refine sJ c29r6.eq_1 ?_
   refine hA.y_ld hx rfl rfl ?_
   rintro a1 ha1 cs hbx
   refine sI ?_
   refine hB.y_ld hy rfl rfl ?_
   rintro a2 ha2 ds hby
   have hsm:=RSame_ok x y cs ds G hbx hby
   obtain⟨B1,d1,rfl,-⟩:=hbx
   obtain⟨B2,d2,rfl,-⟩:=hby
   unfold cellH at hsm ⊢
   refine sI ?_
   refine(hsm _ _).mono ?_;rintro _ _ ⟨rfl,rfl⟩;refine sI ?_
   intros;refine gc ?_;refine sI ?_
   refine gb (fun h3=>?_) (fun h3=>?_)
   ·have h3:¬ x=y:=by simpa using h3
    intros;refine gr 0 0 ?_;refine sJ c29r7.eq_1 ?_
    intros;refine rV ?_;simp only[push_cast,Nat.reduceBEq]
    rw[decide_eq_false fun h=>h3 (by rw[h,hy]at hx;cases hx;rfl)]
   ·have h3:x=y:=by simpa using h3
    intros;refine gN ?_
    intros;refine gr 26 27 ?_;refine sJ2 c29r8.eq_1 @hw ?_
    (intros;try refine go_st ?_)
    refine go_l ⟨⟨k+1,⟨by omega,take_succ_eq htk hx hy h3⟩,eE,eE,eE,eE,rfl⟩,?_⟩
    refine sI ?_
    omega
  ·have ht:k=a.length:=by have:=of_decide_eq_false ht;omega
   refine go_exit ?_
   refine sI ?_
   intros;refine gr 0 0 ?_;refine sJ c29r9.eq_1 ?_
   intros;refine rV ?_;simp only[push_cast,Nat.reduceBEq]
   rw[decide_eq_true (same_take ht h1 htk)]
theorem ordB_ge:∀ {nx:Int} {bs:List Batch},ordB nx bs→(∀ x∈bs,errB x=0)→nx≤nextB nx bs
 | nx,[],_,_=>Int.le_refl _
 | nx,x :: bs,ho,hok=>by
  have h1:=ordB_ge ho.2 (fun z hz=>hok z (.tail _ hz))
  have h2:x.base≤x.last:=(errB_ok (hok x (.head _))).1.2.2.1.1
  have h3:=ho.1
  simp only[nextB]
  omega
def wholeB(s:Sg):Bool:=inO s.base && decide (goodB s=s.bytes.length)
structure Lg where
 limit:Int
 start:Int
 segs:List Sg
deriving DecidableEq
def noneL:Lg:=⟨0,0,[]⟩
def mayO(limit start:Int):Bool:=decide (256≤limit) && decide (limit≤4096) && inO start
def folB(a b:Sg):Bool:=decide (a.base < b.base) && decide (endB a≤b.base)
def fitS(limit:Int)(p:Option Sg)(s:Sg):Prop:=(wholeB s=true∧(s.bytes.length:Int)≤limit)∧∀ a,p=some a→folB a s=true
instance (limit:Int) (s:Sg):∀ p,Decidable (fitS limit p s)
 | none=>if h:wholeB s=true∧(s.bytes.length:Int)≤limit then .isTrue ⟨h,fun a h=>by cases h⟩else .isFalse fun hh=>h hh.1
 | some a=>if h:(wholeB s=true∧(s.bytes.length:Int)≤limit)∧folB a s=true then .isTrue ⟨h.1,fun b hb=>by cases hb;exact h.2⟩else .isFalse fun hh=>h ⟨hh.1,hh.2 a rfl⟩
def okS(limit:Int):Option Sg→List Sg→Prop
 | _,[]=>True
 | p,s :: ss=>fitS limit p s∧okS limit (some s) ss
instance (limit:Int):∀ p l,Decidable (okS limit p l)
 | _,[]=>.isTrue trivial
 | p,s :: ss=>@instDecidableAnd _ _ (inferInstance) (instDecidableOkS limit (some s) ss)
where instDecidableOkS (limit:Int):∀ p l,Decidable (okS limit p l)
 | _,[]=>.isTrue trivial
 | p,s :: ss=>@instDecidableAnd _ _ (inferInstance) (instDecidableOkS limit (some s) ss)
def endP:Option Sg→List Sg→Option Sg
 | p,[]=>p
 | _,s :: ss=>endP (some s) ss
theorem endP_app(p:Option Sg)(a b:List Sg):endP p (a++b)=endP (endP p a) b:=by
 induction a generalizing p with
 | nil=>rfl
 | cons x a ih=>exact ih _
theorem okS_app(limit:Int)(p:Option Sg)(a b:List Sg):okS limit p (a++b)↔okS limit p a∧okS limit (endP p a) b:=by
 induction a generalizing p with
 | nil=>simp[okS,endP]
 | cons x a ih=>simp only[List.cons_append,okS,endP,ih,and_assoc]
theorem endP_snoc(p:Option Sg)(a:List Sg)(s:Sg):endP p (a++[s])=some s:=by rw[endP_app];rfl
theorem take_snoc'{α:Type}{l:List α}{k:Nat}{x:α}(h:l[k]?=some x):l.take (k+1)=l.take k++[x]:=by rw[List.take_add_one,h];rfl
theorem endP_take{l:List Sg}{k:Nat}{s:Sg}(p:Option Sg)(h:l[k]?=some s):endP p (l.take (k+1))=some s:=by rw[take_snoc' h,endP_snoc]
theorem okS_take{limit:Int}{l:List Sg}{k:Nat}{s:Sg}(h:l[k]?=some s):okS limit none (l.take (k+1))↔okS limit none (l.take k)∧fitS limit (endP none (l.take k)) s:=by
 rw[take_snoc' h,okS_app]
 simp[okS]
theorem okS_pre{limit:Int}{p:Option Sg}{l:List Sg}(h:okS limit p l)(k:Nat):okS limit p (l.take k):=by
 rw[← List.take_append_drop k l,okS_app]at h
 exact h.1
theorem okS_mem{limit:Int}{l:List Sg}:∀ {p:Option Sg},okS limit p l→∀ s∈l,wholeB s=true∧(s.bytes.length:Int)≤limit:=by
 induction l with
 | nil=>intro p _ s h;cases h
 | cons x l ih =>
  intro p h s hs
  rcases List.mem_cons.1 hs with rfl | hs
  ·exact h.1.1
  ·exact ih h.2 s hs
theorem endP_last{l:List Sg}{s:Sg}(p:Option Sg)(h:l[l.length - 1]?=some s):endP p l=some s:=by
 have h0:=(List.getElem?_eq_some_iff.1 h).1
 have:=endP_take p h
 rwa [Nat.sub_add_cancel (by omega),List.take_length]at this
def chkL(l:Lg):Int:=if mayO l.limit l.start=true∧l.segs≠[]∧okS l.limit none l.segs then(if 256 < l.segs.length then 2 else 0)else 1
theorem chkL_0{l:Lg}(h:chkL l=0):mayO l.limit l.start=true∧l.segs≠[]∧okS l.limit none l.segs∧l.segs.length≤256:=by
 unfold chkL at h
 split at h
 ·rename_i h1
  split at h
  ·cases h
  ·exact⟨h1.1,h1.2.1,h1.2.2,by omega⟩
 ·cases h
theorem chkL_is{l:Lg}(h1:mayO l.limit l.start=true)(h2:l.segs≠[])(h3:okS l.limit none l.segs)(h4:l.segs.length≤256):chkL l=0:=by
 rw[chkL,if_pos ⟨h1,h2,h3⟩,if_neg (by omega)]
theorem mayO_iff{a b:Int}:mayO a b=true↔(256≤a∧a≤4096)∧inO b=true:=by simp[mayO]
def endO(n:Int):Option Sg→Int
 | none=>n
 | some s=>max n (endB s)
def endL(l:Lg):Int:=endO l.start (endP none l.segs)
def EndL(l:Lg):Int:=if chkL l=0 then endL l else 0
theorem whole_iff{s:Sg}:wholeB s=true↔goodB s=s.bytes.length∧inO s.base=true:=by
 simp[wholeB,and_comm]
theorem folB_iff{a b:Sg}:folB a b=true↔a.base < b.base∧endB a≤b.base:=by simp[folB]
def bsS(l:List Sg):List Batch:=l.flatMap scanB
theorem bsS_nil:bsS []=[]:=rfl
theorem bsS_cons(s:Sg)(l:List Sg):bsS (s :: l)=scanB s++bsS l:=rfl
theorem bsS_app(a b:List Sg):bsS (a++b)=bsS a++bsS b:=by simp[bsS]
def reach(off:Int)(l:List Batch):List Batch:=l.filter fun b=>decide (off≤b.last)
theorem reach_app(off:Int)(a b:List Batch):reach off (a++b)=reach off a++reach off b:=by simp[reach]
def allL(l:Lg):List Batch:=reach l.start (bsS l.segs)
def AllL(l:Lg):List Batch:=if chkL l=0 then allL l else[]
def newL(limit start:Int):Lg × Int:=if mayO limit start=true then(⟨limit,start,[⟨start,[]⟩]⟩,0)else(noneL,1)
def lastS(l:Lg):Sg:=(endP none l.segs).getD noneS
def appL(l:Lg)(b:Batch):Lg × Int :=
 if chkL l=0 then
  if errB b=0 then
   if b.base < endL l then(noneL,71)
   else if l.limit < ((bytesB b).length:Int)then(noneL,70)
   else if (appS (lastS l) b l.limit).2=0 then(⟨l.limit,l.start,l.segs.take (l.segs.length - 1)++[(appS (lastS l) b l.limit).1]⟩,0)
   else if l.segs.length=256 then(noneL,2)
   else(⟨l.limit,l.start,l.segs++[⟨b.base,bytesB b⟩]⟩,0)
  else(noneL,errB b)
 else(noneL,chkL l)
def betw(l:Lg)(off:Int):Bool:=decide (l.start≤off) && decide (off≤endL l)
def truS(l:List Sg)(to:Int):List Sg:=(l.filter fun s=>decide (s.base < to)).map fun s=>cutS s to
def truT(l:List Sg)(to:Int):List Sg:=if truS l to=[]then[⟨to,[]⟩]else truS l to
def truL(l:Lg)(to:Int):Lg × Int :=
 if chkL l=0 then if betw l to=true then(⟨l.limit,l.start,truT l.segs to⟩,0)else(noneL,90)else(noneL,chkL l)
def nthS(l:Lg)(n:Nat):Sg:=l.segs.getD n noneS
def keeps(p:Option Sg)(s:Sg):Bool :=
 match p with
 | none=>true
 | some a=>wholeB a && folB a s
def recS:Option Sg→List Sg→List Sg
 | _,[]=>[]
 | p,s :: ss=>if keeps p s=true then(fixS s).1 :: recS (some s) ss else[]
def sizS:List Sg→Nat
 | []=>0
 | s :: ss=>s.bytes.length+sizS ss
theorem sizS_app(a b:List Sg):sizS (a++b)=sizS a+sizS b:=by
 induction a with
 | nil=>simp[sizS]
 | cons x a ih=>simp only[List.cons_append,sizS,ih];omega
def headO(l:Lg):Bool:=match l.segs with | []=>false | s :: _=>inO s.base
def recL(l:Lg):Lg × Int :=
 if mayO l.limit l.start=true∧headO l=true then(⟨l.limit,l.start,recS none l.segs⟩,(sizS l.segs:Int) - (sizS (recS none l.segs):Int))else(noneL,0)
theorem limO_of{a b:Int}(h:mayO a b=true):limO a=true:=by
 have:=mayO_iff.1 h
 exact limO_iff.2 ⟨by omega,by omega⟩
theorem inO_of{a b:Int}(h:mayO a b=true):inO b=true:=(mayO_iff.1 h).2
theorem err_le{b:Batch}(h:errB b=0):b.base≤b.last:=(errB_ok h).1.2.2.1.1
theorem err_in{b:Batch}(h:errB b=0):inO b.base=true∧inO b.last=true:=by
 obtain⟨⟨f1,f2,-⟩,-⟩:=(errB_ok h).1
 simp[rng]at f1 f2
 exact⟨inO_iff.2 (by omega),inO_iff.2 (by omega)⟩
theorem appS_w{s:Sg}{b:Batch}{limit:Int}(hw:wholeB s=true)(hl:limO limit=true)(h0:errB b=0)(ho:endB s≤b.base):
  appS s b limit=if limit < ((s.bytes.length+(bytesB b).length:Nat):Int)then(noneS,70)else(⟨s.base,s.bytes++bytesB b⟩,0):=by
 have hw:=whole_iff.1 hw
 split
 ·rename_i h;exact appS_r ⟨hw.1,hw.2,hl⟩ h0 (by omega) h
 ·rename_i h;exact appS_0 ⟨hw.1,hw.2,hl⟩ h0 (by omega) h
theorem new_in{base:Int}(h:inO base=true):newS base=(⟨base,[]⟩,0):=if_pos h
theorem nil_end(base:Int):endB ⟨base,[]⟩=base:=rfl
theorem of_one{b:Batch}{limit:Int}(hl:limO limit=true)(h0:errB b=0)(h1:((bytesB b).length:Int)≤limit):ofS b.base [b] limit=(⟨b.base,bytesB b⟩,0):=by
 have hin:=(err_in h0).1
 have ha:appS ⟨b.base,[]⟩ b limit=(⟨b.base,bytesB b⟩,0):=by
  have:=appS_0 (s:=⟨b.base,[]⟩) (x:=b) (limit:=limit) ⟨rfl,hin,hl⟩ h0 (by rw[nil_end];omega) (by simp;omega)
  rw[this]
  simp
 unfold ofS
 rw[new_in hin,if_pos ⟨rfl,hl⟩]
 simp only[ofL,ha,if_true]
theorem scan_one{b:Batch}(h0:errB b=0):scanB ⟨b.base,bytesB b⟩=[b] :=
 Scans.is (r:=[]) ⟨by simp[allB],fun x hx=>by simp at hx;subst hx;exact h0,⟨Int.le_refl _,trivial⟩,more_nil⟩
theorem whole_one{b:Batch}(h0:errB b=0):wholeB ⟨b.base,bytesB b⟩=true :=
 whole_iff.2 ⟨by rw[goodB,scan_one h0];simp[allB],(err_in h0).1⟩
theorem end_one{b:Batch}(h0:errB b=0):endB ⟨b.base,bytesB b⟩=b.last+1:=by rw[endB,scan_one h0];rfl
theorem whole_all{s:Sg}(h:goodB s=s.bytes.length):s.bytes=allB (scanB s):=by
 obtain⟨r,hs⟩:=scan_spec s
 have e:=hs.eq
 have hl:=congrArg List.length e
 rw[List.length_append]at hl
 have:r=[]:=List.eq_nil_of_length_eq_zero (by unfold goodB at h;omega)
 rw[this,List.append_nil]at e
 exact e
theorem snoc_w{s:Sg}{b:Batch}(hw:wholeB s=true)(h0:errB b=0)(ho:endB s≤b.base):scanB ⟨s.base,s.bytes++bytesB b⟩=scanB s++[b]∧wholeB ⟨s.base,s.bytes++bytesB b⟩=true∧endB ⟨s.base,s.bytes++bytesB b⟩=b.last+1:=by
 have hw:=whole_iff.1 hw
 have h1:scanB ⟨s.base,s.bytes++bytesB b⟩=scanB s++[b]:=Scans.is (r:=[]) (scan_snoc hw.1 h0 ho)
 refine⟨h1,whole_iff.2 ⟨?_,hw.2⟩,?_⟩
 ·rw[goodB,h1,allB_app,← whole_all hw.1]
  simp[allB]
 ·rw[endB,h1,nextB_app]
  rfl
theorem last_split{l:List Sg}(h:l≠[]):∃ s,l[l.length - 1]?=some s∧l=l.take (l.length - 1)++[s]∧endP none l=some s:=by
 have h0:0 < l.length:=List.length_pos_iff.2 h
 refine⟨l[l.length - 1]'(by omega),List.getElem?_eq_getElem _,?_,?_⟩
 ·have:=take_snoc' (l:=l) (k:=l.length - 1) (List.getElem?_eq_getElem (by omega))
  rwa [Nat.sub_add_cancel (by omega),List.take_length]at this
 ·exact endP_last none (List.getElem?_eq_getElem _)
theorem endL_ge(l:Lg):l.start≤endL l:=by
 unfold endL endO
 split <;> omega
theorem log_last{l:Lg}(h:chkL l=0):∃ s,l.segs[l.segs.length - 1]?=some s∧l.segs=l.segs.take (l.segs.length - 1)++[s]∧lastS l=s∧endL l=max l.start (endB s)∧fitS l.limit (endP none (l.segs.take (l.segs.length - 1))) s:=by
 obtain⟨h1,h2,h3,h4⟩:=chkL_0 h
 obtain⟨s,e1,e2,e3⟩:=last_split h2
 refine⟨s,e1,e2,by rw[lastS,e3];rfl,by rw[endL,e3];rfl,?_⟩
 rw[e2,okS_app]at h3
 exact h3.2.1
theorem appL_ok{l:Lg}{b:Batch}(h:(appL l b).2=0):(chkL l=0∧errB b=0∧endL l≤b.base∧((bytesB b).length:Int)≤l.limit)∧((appL l b).1.limit=l.limit∧(appL l b).1.start=l.start)∧chkL (appL l b).1=0∧endL (appL l b).1=b.last+1∧bsS (appL l b).1.segs=bsS l.segs++[b]∧((appL l b).1.segs.length=l.segs.length∨(appL l b).1.segs.length=l.segs.length+1):=by
 have hge:=endL_ge l
 unfold appL at h ⊢
 by_cases k0:¬ chkL l=0
 ·rw[if_neg k0]at h;exact absurd h k0
 have k0:=Decidable.not_not.1 k0
 rw[if_pos k0]at h ⊢
 by_cases k1:¬ errB b=0
 ·rw[if_neg k1]at h;exact absurd h k1
 have k1:=Decidable.not_not.1 k1
 rw[if_pos k1]at h ⊢
 by_cases k2:b.base < endL l
 ·rw[if_pos k2]at h;cases h
 rw[if_neg k2]at h ⊢
 by_cases k3:l.limit < ((bytesB b).length:Int)
 ·rw[if_pos k3]at h;cases h
 rw[if_neg k3]at h ⊢
 refine⟨⟨k0,k1,by omega,by omega⟩,?_⟩
 obtain⟨c1,c2,c3,c4⟩:=chkL_0 k0
 obtain⟨s,e1,e2,e3,e4,e5⟩:=log_last k0
 have hb:=err_le k1
 rw[e3]at h ⊢
 have hap:=appS_w e5.1.1 (limO_of c1) k1 (show endB s≤b.base by omega)
 have hlen:0 < l.segs.length:=List.length_pos_iff.2 c2
 have hok:=c3
 rw[e2,okS_app]at hok
 by_cases k4:l.limit < ((s.bytes.length+(bytesB b).length:Nat):Int)
 ·rw[if_pos k4]at hap
  rw[hap]at h ⊢
  rw[if_neg (by decide)]at h ⊢
  by_cases k5:l.segs.length=256
  ·rw[if_pos k5]at h;cases h
  rw[if_neg k5]at h ⊢
  refine⟨⟨rfl,rfl⟩,chkL_is c1 (by simp) ?_ (by simp;omega),?_,?_,.inr (by simp)⟩
  ·show okS l.limit none (l.segs++[⟨b.base,bytesB b⟩])
   rw[okS_app]
   refine⟨c3,⟨⟨whole_one k1,by show((bytesB b).length:Int)≤_;omega⟩,fun a ha=>?_⟩,trivial⟩
   rw[endP_last none e1]at ha
   cases ha
   have hwb:s.base < b.base:=by
    have h6:=(whole_iff.1 e5.1.1).1
    have h7:=whole_all h6
    obtain⟨r,hs⟩:=scan_spec s
    have hne:scanB s≠[]:=fun hh=>by
     rw[hh]at h7
     have:s.bytes.length=0:=by rw[h7];rfl
     omega
    obtain⟨x,bs,hx⟩:=List.exists_cons_of_ne_nil hne
    have ho:=hs.ord
    have hk:=hs.ok
    rw[hx]at ho hk
    have h8:=err_le (hk x (.head _))
    have h9:=ordB_ge ho.2 (fun z hz=>hk z (.tail _ hz))
    have h10:endB s=nextB (x.last+1) bs:=by rw[endB,hx];rfl
    have h11:=ho.1
    omega
   exact folB_iff.2 ⟨hwb,by show endB s≤b.base;omega⟩
  ·show endO l.start (endP none (l.segs++[_]))=_
   rw[endP_snoc]
   show max l.start (endB ⟨b.base,bytesB b⟩)=_
   rw[end_one k1]
   omega
  ·show bsS (l.segs++[_])=_
   rw[bsS_app]
   congr 1
   rw[bsS_cons,bsS_nil,scan_one k1]
   rfl
 ·rw[if_neg k4]at hap
  rw[hap]at h ⊢
  rw[if_pos rfl]
  obtain⟨g1,g2,g3⟩:=snoc_w e5.1.1 k1 (show endB s≤b.base by omega)
  have hl2:(l.segs.take (l.segs.length - 1)++[(⟨s.base,s.bytes++bytesB b⟩:Sg)]).length=l.segs.length:=by
   rw[List.length_append,List.length_take]
   simp only[List.length_cons,List.length_nil]
   omega
  refine⟨⟨rfl,rfl⟩,chkL_is c1 (by simp) ?_ (by show List.length _≤_;rw[hl2];omega),?_,?_,.inl hl2⟩
  ·show okS l.limit none (_++[_])
   rw[okS_app]
   refine⟨hok.1,⟨⟨g2,by show((s.bytes++bytesB b).length:Int)≤_;rw[List.length_append];omega⟩,fun a ha=>?_⟩,trivial⟩
   exact e5.2 a ha
  ·show endO l.start (endP none (_++[_]))=_
   rw[endP_snoc]
   show max l.start (endB ⟨s.base,s.bytes++bytesB b⟩)=_
   rw[g3]
   omega
  ·show bsS (_++[_])=_
   rw[bsS_app,bsS_cons,bsS_nil,List.append_nil,g1,← List.append_assoc]
   congr 1
   conv=>rhs;rw[e2]
   rw[bsS_app,bsS_cons,bsS_nil,List.append_nil]
theorem appL_all{l:Lg}{b:Batch}(h:(appL l b).2=0):allL (appL l b).1=allL l++[b]:=by
 obtain⟨⟨-,h1,h2,-⟩,⟨h3,h4⟩,-,-,h5,-⟩:=appL_ok h
 have:=endL_ge l
 have:=err_le h1
 unfold allL
 rw[h4,h5,reach_app]
 congr 1
 unfold reach
 rw[List.filter_cons,if_pos (by simp;omega)]
 rfl
theorem appL_no{l:Lg}{b:Batch}(h:¬ (appL l b).2=0):(appL l b).1=noneL:=by
 unfold appL at h ⊢
 repeat' split
 all_goals first | rfl | skip
 all_goals simp_all
theorem whole_len{s:Sg}(h:wholeB s=true):(allB (scanB s)).length=s.bytes.length:=(whole_iff.1 h).1
theorem bsS_len{limit:Int}:∀ {l:List Sg} {p:Option Sg},okS limit p l→(allB (bsS l)).length=sizS l
 | [],_,_=>rfl
 | s :: l,p,h=>by
  rw[bsS_cons,allB_app,List.length_append,whole_len h.1.1.1,sizS,bsS_len h.2]
theorem sizS_le{limit:Int}:∀ {l:List Sg} {p:Option Sg},okS limit p l→(sizS l:Int)≤limit * l.length
 | [],_,_=>by simp[sizS]
 | s :: l,p,h=>by
  have h1:=sizS_le h.2
  have h2:=h.1.1.2
  rw[sizS,List.length_cons]
  push_cast
  rw[Int.mul_add]
  omega
theorem reach_len(off:Int)(l:List Batch):(allB (reach off l)).length≤(allB l).length:=by
 induction l with
 | nil=>exact Nat.le_refl _
 | cons b l ih =>
  unfold reach at ih ⊢
  rw[List.filter_cons]
  split
  ·simp only[allB_cons,List.length_append];omega
  ·simp only[allB_cons,List.length_append];omega
theorem fix_w{s:Sg}(h:wholeB s=true):fixS s=(s,0):=by
 have:=(whole_iff.1 h).1
 unfold fixS
 rw[this,List.take_length]
 cases s
 simp
theorem recS_app{limit:Int}:∀ {l m:List Sg} {p:Option Sg},(∀ a,p=some a→wholeB a=true)→okS limit p l→recS p (l++m)=l++recS (endP p l) m
 | [],m,p,_,_=>rfl
 | s :: l,m,p,hp,h=>by
  have hk:keeps p s=true:=by
   cases p with
   | none=>rfl
   | some a=>simp[keeps,hp a rfl,h.1.2 a rfl]
  rw[List.cons_append,recS,if_pos hk,fix_w h.1.1.1,recS_app (fun a ha=>by cases ha;exact h.1.1.1) h.2]
  rfl
theorem recS_ok{limit:Int}{l:List Sg}(h:okS limit none l):recS none l=l:=by
 have:=recS_app (m:=[]) (fun a ha=>by cases ha) h
 rw[List.append_nil]at this
 rw[this,recS,List.append_nil]
theorem headL_ok{l:Lg}(h:chkL l=0):headO l=true:=by
 obtain⟨h1,h2,h3,h4⟩:=chkL_0 h
 unfold headO
 cases hs:l.segs with
 | nil=>exact absurd hs h2
 | cons s ss =>
  rw[hs]at h3
  exact(whole_iff.1 h3.1.1.1).2
theorem recL_ok{l:Lg}(h:chkL l=0):recL l=(l,0):=by
 obtain⟨h1,h2,h3,h4⟩:=chkL_0 h
 unfold recL
 rw[if_pos ⟨h1,headL_ok h⟩,recS_ok h3]
 simp
theorem new_chk{limit start:Int}(h:mayO limit start=true):chkL ⟨limit,start,[⟨start,[]⟩]⟩=0:=by
 have:=(mayO_iff.1 h)
 exact chkL_is h (by simp) ⟨⟨⟨whole_iff.2 ⟨rfl,this.2⟩,by show(0:Int)≤limit;omega⟩,fun a ha=>by cases ha⟩,trivial⟩ (by simp)
theorem split_at{α:Type}{l:List α}{k:Nat}{x:α}(h:l[k]?=some x):l=l.take k++x :: l.drop (k+1):=by
 obtain⟨h1,h2⟩:=List.getElem?_eq_some_iff.1 h
 conv=>lhs;rw[← List.take_append_drop k l,List.drop_eq_getElem_cons h1,h2]
theorem F142:Fun Tryz.prog 142 9 v142 c142 o142:=Fun.mkA Tryz.func142 Tryz.ntmps142
theorem F103:Fun Tryz.prog 103 15 v103 c103 o103:=Fun.mkA Tryz.func103 Tryz.ntmps103
theorem F112:Fun Tryz.prog 112 20 v112 c112 o112:=Fun.mkA Tryz.func112 Tryz.ntmps112
theorem F113:Fun Tryz.prog 113 17 v113 c113 o113:=Fun.mkA Tryz.func113 Tryz.ntmps113
theorem F115:Fun Tryz.prog 115 7 v115 c115 o115:=Fun.mkA Tryz.func115 Tryz.ntmps115
theorem F63:Fun Tryz.prog 63 13 v63 c63 o63:=Fun.mkA Tryz.func63 Tryz.ntmps63
theorem F206:Fun Tryz.prog 206 15 v206 c206 o206:=Fun.mkA Tryz.func206 Tryz.ntmps206
theorem F62:Fun Tryz.prog 62 56 v62 c62 o62:=Fun.mkA Tryz.func62 Tryz.ntmps62
theorem F22:Fun Tryz.prog 22 8 v22 c22 o22:=Fun.mkA Tryz.func22 Tryz.ntmps22
def cellL(l:Lg)(A:Option Addr)(c:Nat):List Value:=[.int .i64 l.limit,.int .i64 l.start,.slice A l.segs.length c]
def LE(G:Nat→Option Obj)(l:Lg)(cs:List Value):Prop:=∃ A c,cs=cellL l A c∧SlV G (SE G) 2 (.slice A l.segs.length c) l.segs∧I64 l.limit∧I64 l.start
def smL(l:List Sg):Prop:=∀ s∈l,s.bytes.length≤100000
theorem SlSE.le{G G':Nat→Option Obj}(hg:Gle G G'){v:Value}{l:List Sg}(h:SlV G (SE G) 2 v l):SlV G' (SE G') 2 v l:=by
 obtain⟨A,c,h1,h2,h3,h4⟩:=h
 exact⟨A,c,h1,h2,h3,h4.le hg fun _ _ h=>SE.le hg h⟩
theorem LE.le{G G':Nat→Option Obj}(hg:Gle G G'){l:Lg}{cs:List Value}(h:LE G l cs):LE G' l cs:=by
 obtain⟨A,c,h1,h2,h3⟩:=h
 exact⟨A,c,h1,SlSE.le hg h2,h3⟩
theorem offset_ok(n:Int)(G:Nat→Option Obj):FnS Tryz.prog 142 #[.int .i64 n] G (.bool (inO n)):=by
 refine F142.fnS (by simp) (go_of ?_)
 unfold c142
 intros;refine gr 0 0 ?_;refine sJ c142r0.eq_1 ?_
 intros;refine gr 3 9 ?_;refine sJ c142r1.eq_1 ?_
 refine gd (fun h=>?_) (fun h=>?_)
 ·have h:=of_decide_eq_true h
  refine sI ?_
  intros;refine rV ?_;simp only[push_cast,Nat.reduceBEq]
  rw[inO,decide_eq_true h,Bool.true_and]
 ·have h:=of_decide_eq_false h
  refine sI ?_
  intros;refine rV ?_;simp only[push_cast,Nat.reduceBEq]
  rw[inO,decide_eq_false h,Bool.false_and]
theorem may_ok(a b:Int)(G:Nat→Option Obj):FnS Tryz.prog 103 #[.int .i64 a,.int .i64 b] G (.bool (mayO a b)):=by
 refine F103.fnS (by simp) (go_of ?_)
 unfold c103
 intros;refine gr 0 0 ?_;refine sJ c103r0.eq_1 ?_
 intros;refine gr 5 15 ?_;refine sJ c103r1.eq_1 ?_
 refine gd (fun h=>?_) (fun h=>?_)
 ·refine sI ?_
  refine gd (fun h2=>?_) (fun h2=>?_)
  ·refine sI ?_
   refine(offset_ok _ _ _ _).mono ?_;rintro _ _ ⟨rfl,rfl⟩;refine sI ?_
   intros;refine rV ?_;simp only[push_cast,Nat.reduceBEq]
   rw[mayO,h,h2,Bool.true_and,Bool.true_and]
  ·refine sI ?_
   intros;refine rV ?_;simp only[push_cast,Nat.reduceBEq]
   rw[mayO,h2,Bool.and_false,Bool.false_and]
 ·refine sI ?_
  intros;refine rV ?_;simp only[push_cast,Nat.reduceBEq]
  rw[mayO,h,Bool.false_and,Bool.false_and]
theorem whole_ok(s:Sg)(cs:List Value)(G:Nat→Option Obj)(hs:SE G s cs)(hb:s.bytes.length≤1000000):FnS Tryz.prog 112 #[.agg cs.toArray] G (.bool (wholeB s)):=by
 have hscan:=Scan_ok s cs G hs hb
 obtain⟨A,c,rfl,hl,hi⟩:=hs
 have hd:decide (((goodB s:Nat):Int)=((s.bytes.length:Nat):Int))=decide (goodB s=s.bytes.length):=decide_eq_decide.2 (by omega)
 refine F112.fnS (by simp) (go_of ?_)
 unfold c112
 unfold cellS at hscan ⊢
 intros;refine gr 0 0 ?_;refine sJ c112r0.eq_1 ?_
 intros;refine gr 5 10 ?_;refine sJ c112r1.eq_1 ?_
 refine(hscan _ _).mono ?_
 rintro r h' ⟨G1,L',rfl,hg1,u,zc,rfl,hzc,rfl⟩
 refine sI ?_
 intros;refine gr 11 20 ?_;refine sJ c112r2.eq_1 ?_
 refine(offset_ok _ _ _ _).mono ?_;rintro _ _ ⟨rfl,rfl⟩;refine sI ?_
 refine gd (fun k1=>?_) (fun k1=>?_)
 ·refine sJ @hd ?_
  intros;refine rV ?_;simp only[push_cast,Nat.reduceBEq]
  rw[wholeB,k1,Bool.true_and]
 ·refine sI ?_
  intros;refine rV ?_;simp only[push_cast,Nat.reduceBEq]
  rw[wholeB,k1,Bool.false_and]
theorem follows_ok(s t:Sg)(cs ds:List Value)(G:Nat→Option Obj)(hs:SE G s cs)(ht:SE G t ds)(hb:s.bytes.length≤1000000):FnS Tryz.prog 113 #[.agg cs.toArray,.agg ds.toArray] G (.bool (folB s t)):=by
 have hend:=End_ok s cs G hs hb
 obtain⟨A,c,rfl,hl,hi⟩:=hs
 obtain⟨B,d,rfl,hm,hj⟩:=ht
 refine F113.fnS (by simp) (go_of ?_)
 unfold c113
 unfold cellS at hend ⊢
 intros;refine gr 0 0 ?_;refine sJ c113r0.eq_1 ?_
 (intros;try refine go_st ?_);refine go_x _ (List.Sublist.refl _) (by decide) ?_;refine sJ c113r1.eq_1 ?_
 refine gx (fun k1=>?_) (fun k1=>?_)
 ·refine sI ?_
  refine(hend _ _).mono ?_;rintro _ _ ⟨rfl,rfl⟩;refine sI ?_
  intros;refine rV ?_;simp only[push_cast,Nat.reduceBEq]
  rw[folB,k1,Bool.true_and]
 ·refine sI ?_
  intros;refine rV ?_;simp only[push_cast,Nat.reduceBEq]
  rw[folB,k1,Bool.false_and]
theorem last_ok(l:Lg)(A:Option Addr)(c:Nat)(G:Nat→Option Obj)(hl:l.segs.length≤1000000):FnS Tryz.prog 115 #[.agg #[.int .i64 l.limit,.int .i64 l.start,.slice A l.segs.length c]] G (.int .i64 ((l.segs.length:Int) - 1)):=by
 have hw:IntKind.i64.wrap ((l.segs.length:Int) - 1)=(l.segs.length:Int) - 1:=by rw[w64_id] <;> omega
 refine F115.fnS (by simp) (go_of ?_)
 unfold c115
 intros;refine gr 0 0 ?_;refine sJ c115r0.eq_1 ?_
 intros;refine gr 4 7 ?_;refine sJ2 c115r1.eq_1 @hw ?_
 intros;refine rV ?_;simp only[push_cast,Nat.reduceBEq]
theorem end_ok(l:Lg)(cs:List Value)(G:Nat→Option Obj)(hl:LE G l cs)(hb:smL l.segs)(hn:l.segs≠[])(hm:l.segs.length≤1000000):FnS Tryz.prog 63 #[.agg cs.toArray] G (.int .i64 (endL l)):=by
 obtain⟨A,c,rfl,hsl,hi,hj⟩:=hl
 obtain⟨A0,c0,he,hc,hmx,hA⟩:=hsl
 cases he
 obtain⟨s,e1,e2,e3⟩:=last_split hn
 have h0:0 < l.segs.length:=List.length_pos_iff.2 hn
 refine F63.fnS (by simp) (go_of ?_)
 unfold c63 cellL
 intros;refine gr 0 0 ?_;refine sJ c63r0.eq_1 ?_
 (intros;try refine go_st ?_);refine go_x _ (List.Sublist.refl _) (by decide) ?_;refine sJ c63r1.eq_1 ?_
 refine(last_ok l A c _ hm _ _).mono ?_;rintro _ _ ⟨rfl,rfl⟩;refine sI ?_
 refine hA.y_ld e1 (by omega) rfl ?_
 rintro a1 ha1 cs hse
 have hend:=End_ok s cs G hse (by have:=hb s (List.mem_of_getElem? e1);omega)
 obtain⟨B,d,rfl,-⟩:=hse
 unfold cellS at hend ⊢
 refine sI ?_
 refine(hend _ _).mono ?_;rintro _ _ ⟨rfl,rfl⟩;refine sI ?_
 intros;refine rV ?_;simp only[push_cast,Nat.reduceBEq]
 rw[endL,e3]
 rfl
theorem between_ok(l:Lg)(off:Int)(cs:List Value)(G:Nat→Option Obj)(hl:LE G l cs)(hb:smL l.segs)(hn:l.segs≠[])(hm:l.segs.length≤1000000):FnS Tryz.prog 206 #[.agg cs.toArray,.int .i64 off] G (.bool (betw l off)):=by
 have hend:=end_ok l cs G hl hb hn hm
 obtain⟨A,c,rfl,hsl,hi,hj⟩:=hl
 refine F206.fnS (by simp) (go_of ?_)
 unfold c206
 unfold cellL at hend ⊢
 intros;refine gr 0 0 ?_;refine sJ c206r0.eq_1 ?_
 intros;refine gr 6 15 ?_;refine sJ c206r1.eq_1 ?_
 refine gd (fun k1=>?_) (fun k1=>?_)
 ·refine sI ?_
  refine(hend _ _).mono ?_;rintro _ _ ⟨rfl,rfl⟩;refine sI ?_
  intros;refine rV ?_;simp only[push_cast,Nat.reduceBEq]
  rw[betw,k1,Bool.true_and]
 ·refine sI ?_
  intros;refine rV ?_;simp only[push_cast,Nat.reduceBEq]
  rw[betw,k1,Bool.false_and]
theorem endP_pred{l:List Sg}{k:Nat}{a:Sg}(hk:0 < k)(h:l[k - 1]?=some a):endP none (l.take k)=some a:=by
 have:=endP_take none h
 rwa [Nat.sub_add_cancel hk]at this
theorem chkL_no{l:Lg}{k:Nat}{s:Sg}(hs:l.segs[k]?=some s)(h:¬ fitS l.limit (endP none (l.segs.take k)) s):chkL l=1:=by
 unfold chkL
 rw[if_neg]
 rintro⟨-,-,h3⟩
 exact h ((okS_take hs).1 (okS_pre h3 (k+1))).2
theorem ChkL_ok(l:Lg)(cs:List Value)(G:Nat→Option Obj)(hl:LE G l cs)(hb:smL l.segs):FnS Tryz.prog 62 #[.agg cs.toArray] G (.int .i64 (chkL l)):=by
 obtain⟨A,c,rfl,hsl,hi,hj⟩:=hl
 obtain⟨A0,c0,he,hc,hmx,hA⟩:=hsl
 cases he
 refine F62.fnS (by simp) (go_of ?_)
 unfold c62 cellL
 intros;refine gr 0 0 ?_;refine sJ c62r0.eq_1 ?_
 intros;refine gr 6 16 ?_;refine sJ c62r1.eq_1 ?_
 refine(may_ok _ _ _ _ _).mono ?_;rintro _ _ ⟨rfl,rfl⟩;refine sI ?_
 refine gd (fun k1=>?_) (fun k1=>?_)
 ·have k1:mayO l.limit l.start=false:=by simpa using k1
  refine sI ?_
  intros;refine gc ?_;refine sI ?_
  intros;refine gr 0 0 ?_;refine sJ c62r2.eq_1 ?_
  intros;refine rV ?_;simp only[push_cast,Nat.reduceBEq]
  rw[chkL,if_neg (by rw[k1];simp)]
 have k1:mayO l.limit l.start=true:=by simpa using k1
 refine sI ?_
 intros;refine gc ?_;refine sI ?_
 refine gb (fun k2=>?_) (fun k2=>?_)
 ·have k2:l.segs=[]:=List.eq_nil_of_length_eq_zero (by have:=of_decide_eq_true k2;omega)
  intros;refine gr 0 0 ?_;refine sJ c62r2.eq_1 ?_
  intros;refine rV ?_;simp only[push_cast,Nat.reduceBEq]
  rw[chkL,if_neg (by rw[k2];simp)]
 have k2:l.segs≠[]:=fun h=>by rw[h]at k2;simp at k2
 intros;refine gN ?_
 intros;refine gr 0 0 ?_;refine sJ c62r3.eq_1 ?_
 intros
 refine go_cut (fun e h=>okS l.limit none l.segs∧h=⟨G,[.reg 1 [.int .i64 l.limit,.int .i64 l.start,.slice A l.segs.length c]],[]⟩) ?_ ?_
 ·(intros;try refine go_st ?_)
  refine go_loop (fun e h=>∃ k:Nat,(k≤l.segs.length∧okS l.limit none (l.segs.take k))∧e 20=.int .i64 k∧e 19=.int .i64 l.segs.length∧e 18=.slice A l.segs.length c∧h=⟨G,[.reg 1 [.int .i64 l.limit,.int .i64 l.start,.slice A l.segs.length c]],[]⟩) (fun e h=>l.segs.length - iv (e 20)) ?_ ?_
  ·exact⟨0,⟨Nat.zero_le _,trivial⟩,eE,eE,eE,rfl⟩
  rintro e h ⟨k,⟨hk,hok⟩,e20,e19,e18,rfl⟩
  refine go_keep [18,19,20] ?_
  refine sJ3 @e18 @e19 @e20 ?_
  intros;refine gr 0 0 ?_;refine sJ c62r4.eq_1 ?_
  intros;refine gc ?_;refine sI ?_
  refine gb (fun ht=>?_) (fun ht=>?_)
  ·have ht:k < l.segs.length:=by have:=of_decide_eq_true ht;omega
   have hw:=inc_i k c (by omega) hmx
   obtain⟨s,hs⟩:∃ s,l.segs[k]?=some s:=⟨l.segs[k],List.getElem?_eq_getElem (by omega)⟩
   have hbs:=hb s (List.mem_of_getElem? hs)
   intros;refine gN ?_
   intros;refine gr 22 25 ?_;refine sJ c62r5.eq_1 ?_
   refine hA.x_ld hs rfl rfl ?_
   rintro a1 ha1 cs hse
   have hse0:=hse
   have hwh:=whole_ok s cs G hse (by omega)
   obtain⟨B,d,rfl,hsb,hsi⟩:=hse
   unfold cellS at hwh hse0 ⊢
   refine sI ?_
   have hno:∀ (fr:List Td) (e:Env) (X:List Kx.Item),¬ fitS l.limit (endP none (l.segs.take k)) s→go none Tryz.prog 56 v62.1 v62.2 (retQ o62 fun v h=>v=.int .i64 (chkL l)) (Td.s ((SC.reg false c62r7).seq .ret) :: fr) e ⟨G,X,[]⟩:=fun fr e X hn=>by
    intros;refine gr 0 0 ?_;refine sJ c62r7.eq_1 ?_
    intros;refine rV ?_;simp only[push_cast,Nat.reduceBEq]
    rw[chkL_no hs hn]
   have hnx:fitS l.limit (endP none (l.segs.take k)) s→okS l.limit none (l.segs.take (k+1)):=fun h=>(okS_take hs).2 ⟨hok,h⟩
   (intros;try refine go_st ?_);refine go_x _ (List.Sublist.refl _) (by decide) ?_;refine sJ c62r6.eq_1 ?_
   refine gx (fun k3=>?_) (fun k3=>?_)
   ·have k3:=of_decide_eq_true k3
    refine sI ?_
    intros;refine gc ?_;refine sI ?_
    exact hno _ _ _ fun h=>by have:=h.1.2;omega
   have k3:=of_decide_eq_false k3
   refine sI ?_
   refine(hwh _ _).mono ?_;rintro _ _ ⟨rfl,rfl⟩;refine sI ?_
   refine gx (fun k4=>?_) (fun k4=>?_)
   ·have k4:wholeB s=false:=by simpa using k4
    refine sI ?_
    intros;refine gc ?_;refine sI ?_
    exact hno _ _ _ fun h=>by have:=h.1.1;rw[k4]at this;cases this
   have k4:wholeB s=true:=by simpa using k4
   refine sI ?_
   refine gx (fun k5=>?_) (fun k5=>?_)
   ·have k5:0 < k:=by have:=of_decide_eq_true k5;omega
    have hw1:IntKind.i64.wrap ((k:Int) - 1)=(k:Int) - 1:=by unfold maxLen at hmx;rw[w64_id] <;> omega
    obtain⟨p,hp⟩:∃ p,l.segs[k - 1]?=some p:=⟨l.segs[k - 1],List.getElem?_eq_getElem (by omega)⟩
    have hbp:=hb p (List.mem_of_getElem? hp)
    have hep:=endP_pred k5 hp
    refine sJ @hw1 ?_
    refine hA.y_ld hp (by omega) rfl ?_
    rintro a2 ha2 cs2 hpe
    have hfo:=follows_ok p s cs2 _ G hpe hse0 (by omega)
    obtain⟨B2,d2,rfl,-⟩:=hpe
    unfold cellS at hfo ⊢
    refine sI ?_
    refine(hfo _ _).mono ?_;rintro _ _ ⟨rfl,rfl⟩;refine sI ?_
    intros;refine gc ?_;refine sI ?_
    refine gb (fun k6=>?_) (fun k6=>?_)
    ·have k6:folB p s=false:=by simpa using k6
     exact hno _ _ _ fun h=>by have:=h.2 p hep;rw[k6]at this;cases this
    ·have k6:folB p s=true:=by simpa using k6
     intros;refine gN ?_
     refine go_ghost (ghost_sub (L':=[.reg 1 [.int .i64 l.limit,.int .i64 l.start,.slice A l.segs.length c]]) (.cons _ (List.Sublist.refl _))) ?_
     intros;refine gr 51 52 ?_;refine sJ2 c62r8.eq_1 @hw ?_
     (intros;try refine go_st ?_)
     refine go_l ⟨⟨k+1,⟨by omega,hnx ⟨⟨k4,by omega⟩,fun a ha=>by rw[hep]at ha;cases ha;exact k6⟩⟩,eE,eE,eE,rfl⟩,?_⟩
     refine sI ?_
     omega
   ·have k5:k=0:=by have:=of_decide_eq_false k5;omega
    refine sI ?_
    intros;refine gc ?_;refine sI ?_
    refine go_ghost (ghost_sub (L':=[.reg 1 [.int .i64 l.limit,.int .i64 l.start,.slice A l.segs.length c]]) (.cons _ (List.Sublist.refl _))) ?_
    intros;refine gr 51 52 ?_;refine sJ2 c62r8.eq_1 @hw ?_
    (intros;try refine go_st ?_)
    refine go_l ⟨⟨k+1,⟨by omega,hnx ⟨⟨k4,by omega⟩,fun a ha=>by rw[k5]at ha;cases ha⟩⟩,eE,eE,eE,rfl⟩,?_⟩
    refine sI ?_
    omega
  ·have ht:k=l.segs.length:=by have:=of_decide_eq_false ht;omega
   subst ht
   rw[List.take_length]at hok
   refine go_exit ?_
   refine sI ?_
   intros;refine gN ?_
   exact go_l ⟨hok,rfl⟩
 rintro e h ⟨hok,rfl⟩
 refine go_keep [] ?_
 intros
 have hd:decide ((l.segs.length:Int) > 256)=decide (256 < l.segs.length):=decide_eq_decide.2 (by omega)
 intros;refine gr 53 55 ?_;refine sJ c62r9.eq_1 ?_
 intros;refine gc ?_;refine sI ?_
 refine gb (fun k3=>?_) (fun k3=>?_)
 ·have k3:=of_decide_eq_true k3
  intros;refine gr 0 0 ?_;refine sJ c62r10.eq_1 ?_
  intros;refine rV ?_;simp only[push_cast,Nat.reduceBEq]
  rw[chkL,if_pos ⟨k1,k2,hok⟩,if_pos (by omega)]
 ·have k3:=of_decide_eq_false k3
  intros;refine gN ?_
  intros;refine gr 0 0 ?_;refine sJ c62r11.eq_1 ?_
  intros;refine rV ?_;simp only[push_cast,Nat.reduceBEq]
  rw[chkL,if_pos ⟨k1,k2,hok⟩,if_neg (by omega)]
theorem CEnd_ok(l:Lg)(cs:List Value)(G:Nat→Option Obj)(hl:LE G l cs)(hb:smL l.segs)(hm:l.segs.length≤1000000):FnS Tryz.prog 22 #[.agg cs.toArray] G (.int .i64 (EndL l)):=by
 have hchk:=ChkL_ok l cs G hl hb
 have hend:=end_ok l cs G hl hb
 obtain⟨A,c,rfl,hsl,hi,hj⟩:=hl
 refine F22.fnS (by simp) (go_of ?_)
 unfold c22
 unfold cellL at hchk hend ⊢
 intros;refine gr 0 0 ?_;refine sJ c22r0.eq_1 ?_
 intros;refine gr 3 5 ?_;refine sJ c22r1.eq_1 ?_
 refine(hchk _ _).mono ?_;rintro _ _ ⟨rfl,rfl⟩;refine sI ?_
 intros;refine gc ?_;refine sI ?_
 refine gb (fun k1=>?_) (fun k1=>?_)
 ·have k1:=of_decide_eq_true k1
  intros;refine gr 0 0 ?_;refine sJ c22r2.eq_1 ?_
  intros;refine rV ?_;simp only[push_cast,Nat.reduceBEq]
  rw[EndL,if_neg k1]
 ·have k1:chkL l=0:=by simpa using k1
  intros;refine gN ?_
  intros;refine gr 6 8 ?_;refine sJ c22r3.eq_1 ?_
  refine(hend (chkL_0 k1).2.1 hm _ _).mono ?_;rintro _ _ ⟨rfl,rfl⟩;refine sI ?_
  intros;refine rV ?_;simp only[push_cast,Nat.reduceBEq]
  rw[EndL,if_pos k1]
end Go.Proofs.YtpmofpekcbghnaaGreat
namespace Go.Proofs.YtpmofpekcbghnaaGreat
open Go Go.Kx Go.RowKit
theorem opens_segs(W:World):Opens Tryz.prog W 31 (fun(l:List Sg) cs=>∃ A c,cs=[.slice A l.length c]∧l.length≤c∧c≤maxLen∧SlA (allG W) (SE (allG W)) 2 A l) :=
 opens_slice Tryz.underlying31 (by kernel_rfl) (opens_seg W)
theorem opens_log(W:World):Opens Tryz.prog W 33 (LE (allG W)):=fun H enc fuel cs x hx=>by
 obtain⟨hl,hf⟩:=opens_fields Tryz.underlying33 (by kernel_rfl) (by kernel_rfl) hx
 obtain⟨v0,_,_,c0,t0⟩:=hf 0 _ rfl
 obtain⟨v1,_,_,c1,t1⟩:=hf 1 _ rfl
 obtain⟨v2,_,_,c2,t2⟩:=hf 2 _ rfl
 obtain⟨n0,e0,w0⟩:=(opens_int Tryz.underlying3).at_ t0
 obtain⟨n1,e1,w1⟩:=(opens_int Tryz.underlying3).at_ t1
 obtain⟨n2,A,c,e2,w2⟩:=(opens_segs W).at_ t2
 cases e0;cases e1;cases e2
 refine⟨⟨n0,n1,n2⟩,A,c,?_,⟨A,c,rfl,w2⟩,wf_i64 w0,wf_i64 w1⟩
 match cs,hl with
 | [_,_,_],_=>cases c0;cases c1;cases c2;rfl
end Go.Proofs.YtpmofpekcbghnaaGreat
namespace Go.Proofs.YtpmofpekcbghnaaGreat
open Go Go.Kx
theorem F86:Fun Tryz.prog 86 8 v86 c86 o86:=Fun.mkA Tryz.func86 Tryz.ntmps86
theorem F122:Fun Tryz.prog 122 11 v122 c122 o122:=Fun.mkA Tryz.func122 Tryz.ntmps122
theorem F46:Fun Tryz.prog 46 17 v46 c46 o46:=Fun.mkA Tryz.func46 Tryz.ntmps46
theorem F69:Fun Tryz.prog 69 89 v69 c69 o69:=Fun.mkA Tryz.func69 Tryz.ntmps69
def LgR(p:Lg × Int)(G:Nat→Option Obj)(r:Value):Prop:=∃ cs,r=.tuple #[.agg cs.toArray,.int .i64 p.2]∧LE G p.1 cs
theorem slN{α:Type}{G:Nat→Option Obj}{E:α→List Value→Prop}{sz:Nat}:SlV G E sz (.slice none 0 0) []:=⟨none,0,rfl,Nat.le_refl _,Nat.zero_le _,fun i x hx=>by simp at hx⟩
theorem i64_0:I64 0:=by unfold I64;decide
theorem noneL_r{p:Int}{G:Nat→Option Obj}:LgR (noneL,p) G (.tuple #[.agg #[.int .i64 0,.int .i64 0,.slice none 0 0],.int .i64 p]):=⟨_,rfl,none,0,rfl,slN,i64_0,i64_0⟩
theorem SE1:∀ {G:Nat→Option Obj} (x:Sg) cs,SE G x cs→∀ u∈cs,u.oneCell'=true:=fun x cs h u hu=>by
 obtain⟨A,c,rfl,-⟩:=h
 simp[cellS]at hu
 rcases hu with rfl | rfl <;> rfl
theorem CloneS_ok(l:List Sg)(v:Value)(G:Nat→Option Obj)(hl:SlV G (SE G) 2 v l)(hb:l.length≤100000):FnO Tryz.prog 86 #[v] G [] (fun _ L' r=>OwnL (SE G) 120 2 l L' r):=by
 refine F86.fnO (by simp) noRegs_nil (go_of ?_)
 have hl0:=hl
 obtain⟨A,c,rfl,hc,hm,hA⟩:=hl
 unfold c86
 intros;refine gr 0 0 ?_;refine sJ c86r0.eq_1 ?_
 intros;refine gr 3 4 ?_;refine sJ c86r1.eq_1 ?_
 intros;refine gc ?_;refine sI ?_
 refine gb (fun ht=>?_) (fun ht=>?_)
 ·intros;refine gr 0 0 ?_;refine sJ c86r2.eq_1 ?_
  (intros;try refine go_st ?_)
  have hA0:l=[]:=by
   match l,hA with
   | [],_=>rfl
   | x :: xs,hA=>obtain⟨a,_,ha,_⟩:=hA 0 x rfl;subst ha;cases ht
  subst hA0
  refine go_ghost (ghost_nil none 120 2) ?_
  refine go_ret (retQ_o _ rfl (List.Sublist.refl _) (noRegs_row noRegs_nil) ?_)
  exact⟨[],.nil,rfl⟩
 ·intros;refine gN ?_
  intros;refine gr 5 8 ?_;refine sJ c86r3.eq_1 ?_
  intro b hb'
  refine apX_v (.inr ⟨⟨_,rfl⟩,rfl,rfl,rfl,rfl⟩) hl0 rfl SE1 ⟨by omega,by unfold maxLen;omega⟩ fun ys A c hc=>?_
  simp only[Nat.zero_add]
  refine sI ?_
  (intros;try refine go_st ?_)
  refine go_ret (retQ_o _ rfl (List.Sublist.refl _) (noRegs_row noRegs_nil) ?_)
  exact⟨ys,hc,rfl⟩
theorem ownN_sl{α:Type}{P:Program}{f:FuncId}{args:Array Value}{G:Nat→Option Obj}{E:α→List Value→Prop}{et sz:Nat}{zs:List α}(hf:FnO P f args G [] (fun _ L' r=>OwnL E et sz zs L' r)):
  FnO P f args G [] (fun _ L' r=>∃ A c ys,r=.slice A zs.length c∧(zs.length≤c∧c≤maxLen)∧Cells E sz zs ys∧L'=[.row r et sz zs.length ys]):=fun L D =>
 (hf L D).gx fun v h' ⟨G',L',he,hg,ys,hc,hL⟩=>by
  subst he hL
  exact(gx_knowS (.head _)).mono fun h' ⟨h1,A,c,h2,h3,h4⟩=>⟨G',_,h1,hg,A,c,ys,h2,⟨h3,h4⟩,hc,rfl⟩
theorem with_ok(a b:Int)(B C:Option Addr)(m d m' d':Nat)(G:Nat→Option Obj):FnS Tryz.prog 122 #[.agg #[.int .i64 a,.int .i64 b,.slice B m d],.slice C m' d'] G (.agg #[.int .i64 a,.int .i64 b,.slice C m' d']):=by
 refine F122.fnS (by simp) (go_of ?_)
 unfold c122
 intros;refine gr 0 0 ?_;refine sJ c122r0.eq_1 ?_
 intros;refine gr 6 11 ?_;refine sJ c122r1.eq_1 ?_
 intros;refine rV ?_;simp only[push_cast,Nat.reduceBEq]
theorem sl_i{G:Nat→Option Obj}{A:Option Addr}{l:List Sg}(h:SlA G (SE G) 2 A l):∀ s∈l,I64 s.base:=fun s hs=>by
 obtain⟨i,hi⟩:=List.mem_iff_getElem?.1 hs
 obtain⟨a,cs,_,_,⟨_,_,_,_,h⟩,_⟩:=h i s hi
 exact h
theorem app2{α:Type}{E:α→List Value→Prop}{P:Program}{h:H}{d sz et nb:Nat}{l:List SI}{e:Env}{K:Env→H→Prop}{u:Value}{b:Nat}{zs:List α}{zc cs:List Value}{L2:List Kx.Item}{x:α}(hL:h.L=.row u et sz zs.length zc :: .row (.slice (some ⟨b,0,none⟩) 1 1) et sz 1 cs :: L2)
  (hE:E x cs) (hl:cs.length=sz) (h1:∀ u∈cs,u.oneCell'=true) (hc:Cells E sz zs zc) (hz:zs.length≤1000000) (hnb:nb≤1000)
  (hk:∀ A' c' zc',Cells E sz (zs++[x]) zc'→kR P l d e K (.slice A' (zs++[x]).length c') ⟨h.G,.row (.slice A' (zs++[x]).length c') et sz (zs++[x]).length zc' :: .row (.slice (some ⟨b,0,none⟩) 1 1) et sz 1 cs :: L2,h.D⟩) :
  apX P u (.slice (some ⟨b,0,none⟩) 1 1) et sz nb d l e h K:=by
 refine⟨[],zs.length,zc,.row (.slice (some ⟨b,0,none⟩) 1 1) et sz 1 cs :: L2,1,cs,.inl hL,srcH_row (h:=h) (by rw[hL];exact .tail _ (.head _)) h1 (by rw[hl,Nat.one_mul]),⟨?_,by unfold maxLen;omega⟩,fun A' c'=>?_⟩
 ·have:(zs.length+1) * nb≤1000001 * 1000:=Nat.mul_le_mul (by omega) hnb
  omega
 ·have:=hk A' c' (zc++cs) (hc.app (.one hE hl))
  simp only[List.length_append,List.length_cons,List.length_nil,Nat.zero_add]at this
  exact this
theorem calls_gx0{P:Program}{f:FuncId}{args:Array Value}{h:H}{R:Value→H→Prop}{M:H→Prop}(hE:Enters P f)(hg:GhostX h M)(hc:∀ h',M h'→CallsH P f args h' R):CallsH P f args h R :=
 ⟨hE,fun β w hs=>by
  obtain⟨h',m,s1,t1,d1,r1⟩:=hg β w hs
  exact((hc h' m).2 β w s1).mono fun _ _ ⟨v,h2,a,⟨b1,b2⟩,c,d,r⟩=>⟨v,h2,a,⟨b1.trans d1,r1.trans b2⟩,c,t1.trans d,r⟩⟩
theorem i64_lim{a b:Int}(h:mayO a b=true):I64 a∧I64 b:=by
 have:=mayO_iff.1 h
 have h2:=inO_iff.1 this.2
 constructor <;> (unfold I64;omega)
theorem CNew_ok(limit start:Int)(G:Nat→Option Obj):FnD Tryz.prog 46 #[.int .i64 limit,.int .i64 start] G (LgR (newL limit start)):=by
 refine F46.fnD (by simp) (go_of ?_)
 unfold c46
 intros;refine gr 0 0 ?_;refine sJ c46r0.eq_1 ?_
 intros;refine gr 6 9 ?_;refine sJ c46r1.eq_1 ?_
 refine(may_ok _ _ _ _ _).mono ?_;rintro _ _ ⟨rfl,rfl⟩;refine sI ?_
 intros;refine gc ?_;refine sI ?_
 refine gb (fun h=>?_) (fun h=>?_)
 ·have h:mayO limit start=false:=by simpa using h
  intros;refine gr 10 11 ?_;refine sJ c46r2.eq_1 ?_
  intros;refine rV ?_;simp only[push_cast,Nat.reduceBEq]
  rw[newL,h]
  exact noneL_r
 ·have h:mayO limit start=true:=by simpa using h
  have hi:=i64_lim h
  intros;refine gN ?_
  intros;refine gr 11 17 ?_;refine sJ c46r3.eq_1 ?_
  intro b hb
  refine sI ?_
  intros;try refine go_seq ?_
  refine go_gx (gx_slv_at [] _ (by decide) (Cells.one (E:=SE G) (x:=⟨start,[]⟩) ⟨none,0,rfl,SB.nil,hi.2⟩ rfl)) ?_
  rintro h' ⟨G1,rfl,hg1,hv1⟩
  intros;refine rV ?_;simp only[push_cast,Nat.reduceBEq]
  rw[newL,if_pos h]
  exact⟨_,rfl,_,1,rfl,hv1.le (.refl _) fun _ _ h=>SE.le hg1 h,hi.1,hi.2⟩
set_option maxHeartbeats 1000000 in
theorem CAppend_ok(l:Lg)(x:Batch)(cs ds:List Value)(G:Nat→Option Obj)(hl:LE G l cs)(hb:smL l.segs)(hm:l.segs.length≤1000)(hx:BE G x ds):
  FnD Tryz.prog 69 #[.agg cs.toArray,.agg ds.toArray] G (LgR (appL l x)):=by
 have hl0:=hl
 have hx0:=hx
 have hchk:=ChkL_ok l cs G hl hb
 have hend:=end_ok l cs G hl hb
 have hbc:=BCheck_ok x ds G hx
 have hsz:=Size_ok x ds G hx
 obtain⟨A,c,rfl,hsl,hi,hj⟩:=hl
 obtain⟨A0,c0,he,hc,hmx,hA⟩:=hsl
 cases he
 obtain⟨B,d,rfl,-⟩:=hx
 refine F69.fnD (by simp) (go_of ?_)
 unfold c69
 unfold cellL at hchk hend hl0 ⊢
 unfold cellH at hbc hsz hx0 ⊢
 intros;refine gr 0 0 ?_;refine sJ c69r0.eq_1 ?_
 intros;refine gr 11 13 ?_;refine sJ c69r1.eq_1 ?_
 refine(hchk _ _).mono ?_;rintro _ _ ⟨rfl,rfl⟩;refine sI ?_
 intros;refine gr 13 14 ?_;refine sJ c69r2.eq_1 ?_
 intros
 refine go_cut (fun e h=>e 6=.int .i64 (if chkL l=0 then errB x else chkL l)∧h=⟨G,[.reg 4 [.int .i64 0,.int .i64 0,.slice none 0 0],.reg 3 [.int .i64 x.base,.int .i64 x.last,.int .i64 x.src,.int .i64 x.epoch,.int .i64 x.pid,.int .i64 x.gen,.int .i64 x.seq,.bool x.txn,.int .i64 x.ctl,.slice B x.recs.length d],.reg 2 [.int .i64 l.limit,.int .i64 l.start,.slice A l.segs.length c]],[]⟩) ?_ ?_
 ·intros;refine gc ?_;refine sI ?_
  refine gb (fun k1=>?_) (fun k1=>?_)
  ·have k1:=of_decide_eq_true k1
   intros;refine gr 15 17 ?_;refine sJ c69r3.eq_1 ?_
   refine(hbc _ _).mono ?_;rintro _ _ ⟨rfl,rfl⟩;refine sI ?_
   (intros;try refine go_st ?_)
   have h6:(if chkL l=0 then errB x else chkL l)=errB x:=if_pos k1
   exact go_l ⟨(eJ @h6),rfl⟩
  ·have k1:=of_decide_eq_false k1
   (intros;try refine go_st ?_)
   have h6:(if chkL l=0 then errB x else chkL l)=chkL l:=if_neg k1
   exact go_l ⟨(eJ @h6),rfl⟩
 rintro e h ⟨e6,rfl⟩
 refine go_keep [6] ?_
 refine sJ @e6 ?_
 have hno:¬ (chkL l=0∧errB x=0)→¬ (if chkL l=0 then errB x else chkL l)=0:=fun h h2=>by
  by_cases k:chkL l=0
  ·rw[if_pos k]at h2;exact h ⟨k,h2⟩
  ·rw[if_neg k]at h2;exact k h2
 have happ:¬ (chkL l=0∧errB x=0)→appL l x=(noneL,if chkL l=0 then errB x else chkL l):=fun h=>by
  unfold appL
  by_cases k:chkL l=0
  ·rw[if_pos k,if_pos k,if_neg fun h2=>h ⟨k,h2⟩]
  ·rw[if_neg k,if_neg k]
 have hyes:chkL l=0∧errB x=0→(if chkL l=0 then errB x else chkL l)=0:=fun h=>by rw[if_pos h.1,h.2]
 generalize (if chkL l=0 then errB x else chkL l)=er at *
 intros
 intros;refine gr 18 20 ?_;refine sJ c69r4.eq_1 ?_
 intros;refine gc ?_;refine sI ?_
 refine gb (fun k1=>?_) (fun k1=>?_)
 ·have k1:=of_decide_eq_true k1
  intros;refine gr 20 22 ?_;refine sJ c69r5.eq_1 ?_
  intros;refine rV ?_;simp only[push_cast,Nat.reduceBEq]
  rw[happ fun h=>k1 (hyes h)]
  exact noneL_r
 have k1:er=0:=by simpa using k1
 have k2:chkL l=0∧errB x=0:=Decidable.not_not.1 fun h=>hno h k1
 clear happ hno hyes
 obtain⟨k0,k1⟩:=k2
 obtain⟨c1,c2,c3,c4⟩:=chkL_0 k0
 obtain⟨s,e1,e2,e3,e4,e5⟩:=log_last k0
 have h0:0 < l.segs.length:=List.length_pos_iff.2 c2
 have hz:sizeB x=(bytesB x).length:=by rw[sizeB,putB_0 k1]
 rw[hz]at hsz
 have hlim:=mayO_iff.1 c1
 refine sI ?_
 (intros;try refine go_st ?_);refine go_x _ (List.Sublist.refl _) (by decide) ?_;refine sJ c69r6.eq_1 ?_
 refine(hend c2 (by omega) _ _).mono ?_;rintro _ _ ⟨rfl,rfl⟩;refine sI ?_
 intros;refine gc ?_;refine sI ?_
 refine gb (fun k2=>?_) (fun k2=>?_)
 ·have k2:=of_decide_eq_true k2
  intros;refine gr 28 29 ?_;refine sJ c69r7.eq_1 ?_
  intros;refine rV ?_;simp only[push_cast,Nat.reduceBEq]
  rw[appL,if_pos k0,if_pos k1,if_pos k2]
  exact noneL_r
 have k2:=of_decide_eq_false k2
 intros;refine gN ?_
 (intros;try refine go_st ?_);refine go_x _ (List.Sublist.refl _) (by decide) ?_;refine sJ c69r8.eq_1 ?_
 refine(hsz _ _).mono ?_;rintro _ _ ⟨rfl,rfl⟩;refine sI ?_
 intros;refine gc ?_;refine sI ?_
 refine gb (fun k3=>?_) (fun k3=>?_)
 ·have k3:=of_decide_eq_true k3
  intros;refine gr 35 36 ?_;refine sJ c69r9.eq_1 ?_
  intros;refine rV ?_;simp only[push_cast,Nat.reduceBEq]
  rw[appL,if_pos k0,if_pos k1,if_neg k2,if_pos k3]
  exact noneL_r
 have k3:=of_decide_eq_false k3
 intros;refine gN ?_
 intros;refine gr 36 38 ?_;refine sJ c69r10.eq_1 ?_
 refine(last_ok l A c _ (by omega) _ _).mono ?_;rintro _ _ ⟨rfl,rfl⟩;refine sI ?_
 intros
 intros;try refine go_seq ?_
 intros;try refine go_seq ?_
 refine go_cut (fun e h=>∃ (G':Nat→Option Obj) (b8:Nat) (A3:Option Addr) (c3:Nat),(Gle G G'∧SB G' (.slice A3 (appS s x l.limit).1.bytes.length c3) (appS s x l.limit).1.bytes)∧e 7=.int .i64 ((l.segs.length:Int) - 1)∧e 8=.pointer (some ⟨b8,0,none⟩)∧e 9=.int .i64 (appS s x l.limit).2∧h=⟨G',[.blk b8 [.int .i64 (appS s x l.limit).1.base,.slice A3 (appS s x l.limit).1.bytes.length c3],.reg 4 [.int .i64 0,.int .i64 0,.slice none 0 0],.reg 3 [.int .i64 x.base,.int .i64 x.last,.int .i64 x.src,.int .i64 x.epoch,.int .i64 x.pid,.int .i64 x.gen,.int .i64 x.seq,.bool x.txn,.int .i64 x.ctl,.slice B x.recs.length d],.reg 2 [.int .i64 l.limit,.int .i64 l.start,.slice A l.segs.length c]],[]⟩) ?_ ?_
 ·(intros;try refine go_st ?_);refine go_z _ (List.Sublist.refl _) (by decide) ?_;refine sJ c69r11.eq_1 ?_
  refine hA.y_ld e1 (by omega) rfl ?_
  rintro a1 ha1 cs hse
  have hapd:=Append_ok s x l.limit cs _ G hse (hb s (List.mem_of_getElem? e1)) hx0 hi
  obtain⟨B1,d1,rfl,hsb,hsi⟩:=hse
  unfold cellS at hapd ⊢
  refine sI ?_
  refine⟨?_,?_⟩
  ·refine(ownSE_d hapd _ _).mono ?_
   rintro r h' ⟨G1,rfl,hg1,A3,c3,rfl,hs1⟩
   refine sI ?_
   refine⟨grow_G hg1,?_⟩
   intro b8 hb8
   refine⟨grow_L hg1 (.cons _ (List.Sublist.refl _)),?_⟩
   refine sI ?_
   refine stX_blk [] _ rfl (Nat.le_refl 2) ⟨rfl,rfl⟩ ?_
   refine sI ?_
   refine⟨grow_L hg1 (.cons _ (List.Sublist.refl _)),?_⟩
   refine sI ?_
   exact go_l ⟨G1,b8,A3,c3,⟨hg1,hs1⟩,eE,eE,eE,rfl⟩
  ·intro b8 hb8
   refine⟨grow_L (fun _ _ h=>h) (.cons _ (List.Sublist.refl _)),?_⟩
   refine(ownSE_d hapd _ _).mono ?_
   rintro r h' ⟨G1,rfl,hg1,A3,c3,rfl,hs1⟩
   refine sI ?_
   refine⟨grow_L hg1 (.cons _ (List.Sublist.refl _)),?_⟩
   refine sI ?_
   refine stX_blk [] _ rfl (Nat.le_refl 2) ⟨rfl,rfl⟩ ?_
   refine sI ?_
   refine⟨grow_L hg1 (.cons _ (List.Sublist.refl _)),?_⟩
   refine sI ?_
   exact go_l ⟨G1,b8,A3,c3,⟨hg1,hs1⟩,eE,eE,eE,rfl⟩
 rintro e h ⟨G1,b8,A3,c3,⟨hg1,hs1⟩,e7,e8,e9,rfl⟩
 refine go_keep [7,8,9] ?_
 refine sJ3 @e7 @e8 @e9 ?_
 intros
 refine go_gx gx_blk ?_
 rintro h' ⟨G2,rfl,hg2,f8⟩
 have hs1:=SB.le hs1 hg2
 have hg1:=hg1.trans hg2
 have ht1:((l.segs.length:Int) - 1).toNat=l.segs.length - 1:=by omega
 intros;refine gr 50 51 ?_;refine sJ c69r12.eq_1 ?_
 intros;refine gc ?_;refine sI ?_
 refine gb (fun k4=>?_) (fun k4=>?_)
 ·have k4:(appS s x l.limit).2=0:=of_decide_eq_true k4
  have hsl1:SlV G2 (SE G2) 2 (.slice A l.segs.length c) l.segs:=SlSE.le hg1 ⟨A,c,rfl,hc,hmx,hA⟩
  have hpre:=SlV.pre (l.segs.length - 1) hsl1 (by omega)
  have hcl:=CloneS_ok (l.segs.take (l.segs.length - 1)) _ G2 hpre (by simp;omega)
  have hlk:(l.segs.take (l.segs.length - 1)).length=l.segs.length - 1:=by simp
  have hxe:appL l x=(⟨l.limit,l.start,l.segs.take (l.segs.length - 1)++[(appS s x l.limit).1]⟩,0):=by
   rw[appL,if_pos k0,if_pos k1,if_neg k2,if_neg k3,e3,if_pos k4]
  have hse2:SE G2 (appS s x l.limit).1 [.int .i64 (appS s x l.limit).1.base,.slice A3 (appS s x l.limit).1.bytes.length c3]:=by
   refine⟨A3,c3,rfl,hs1,?_⟩
   obtain⟨-,-,-,-,hh⟩:=appS_ok k4
   rw[hh]
   exact sl_i hA s (List.mem_of_getElem? e1)
  rw[hxe]
  clear hxe
  generalize (appS s x l.limit).1=s' at *
  rw[k4]
  intros;try refine go_seq ?_
  (intros;try refine go_st ?_);refine go_z _ (.cons _ (List.Sublist.refl _)) (by decide) ?_;refine sJ c69r13.eq_1 ?_
  refine⟨by omega,?_⟩
  refine⟨_,⟨_,[.int .i64 s'.base,.slice A3 s'.bytes.length c3],rfl,rfl,rfl,fun j u hu=>.g (f8 j u hu)⟩,?_⟩
  refine sJ @ht1 ?_
  refine⟨?_,?_⟩
  ·refine(ownN_sl hcl _ _).mono ?_
   rintro r h' ⟨G8,L',rfl,hg3,A4,c4,ys,rfl,-,hys,rfl⟩
   refine sI ?_
   refine⟨grow_L hg3 (.cons _ (.cons _ (List.Sublist.refl _))),?_⟩
   intro b9 hb9
   refine⟨grow_L hg3 (.cons _ (.cons _ (.cons _ (List.Sublist.refl _)))),?_⟩
   refine sI ?_
   refine app1 (L1:=[]) (L2:=[_,_,_]) (E:=SE G2) (x:=s') rfl hse2 rfl (by simp[Value.oneCell']) hys (by omega) (by omega) fun A' c' zc' hzc'=>?_
   dsimp only
   generalize l.segs.take (l.segs.length - 1)++[s']=ZS at *
   refine sI ?_
   refine⟨grow_L hg3 (.cons _ (.cons _ (.cons _ (List.Sublist.refl _)))),?_⟩
   refine(with_ok _ _ _ _ _ _ _ _ _ _ _).mono ?_;rintro _ _ ⟨rfl,rfl⟩;refine sI ?_
   refine⟨grow_L hg3 (.cons _ (.cons _ (.cons _ (List.Sublist.refl _)))),?_⟩
   refine sI ?_
   refine⟨grow_L hg3 (.cons _ (.cons _ (.cons _ (List.Sublist.refl _)))),?_⟩
   refine sI ?_
   (intros;try refine go_st ?_)
   refine go_gx (gx_slv_at [_] _ (by decide) hzc') ?_
   rintro h' ⟨G9,rfl,hg9,hv9⟩
   intros;refine rV ?_;simp only[push_cast,Nat.reduceBEq]
   exact⟨_,rfl,A',c',rfl,hv9.le (.refl _) fun _ _ h=>SE.le (hg3.trans hg9) h,hi,hj⟩
  ·intro b9 hb9
   refine⟨grow_L (fun _ _ h=>h) (.cons _ (.cons _ (List.Sublist.refl _))),?_⟩
   refine(ownN_sl hcl _ _).mono ?_
   rintro r h' ⟨G8,L',rfl,hg3,A4,c4,ys,rfl,-,hys,rfl⟩
   refine sI ?_
   refine⟨grow_L hg3 (.cons _ (.cons _ (.cons _ (List.Sublist.refl _)))),?_⟩
   refine sI ?_
   refine app2 (L2:=[_,_,_]) (E:=SE G2) (x:=s') rfl hse2 rfl (by simp[Value.oneCell']) hys (by omega) (by omega) fun A' c' zc' hzc'=>?_
   dsimp only
   generalize l.segs.take (l.segs.length - 1)++[s']=ZS at *
   refine sI ?_
   refine⟨grow_L hg3 (.cons _ (.cons _ (.cons _ (List.Sublist.refl _)))),?_⟩
   refine(with_ok _ _ _ _ _ _ _ _ _ _ _).mono ?_;rintro _ _ ⟨rfl,rfl⟩;refine sI ?_
   refine⟨grow_L hg3 (.cons _ (.cons _ (.cons _ (List.Sublist.refl _)))),?_⟩
   refine sI ?_
   refine⟨grow_L hg3 (.cons _ (.cons _ (.cons _ (List.Sublist.refl _)))),?_⟩
   refine sI ?_
   (intros;try refine go_st ?_)
   refine go_gx (gx_slv_at [] _ (by decide) hzc') ?_
   rintro h' ⟨G9,rfl,hg9,hv9⟩
   intros;refine rV ?_;simp only[push_cast,Nat.reduceBEq]
   exact⟨_,rfl,A',c',rfl,hv9.le (.refl _) fun _ _ h=>SE.le (hg3.trans hg9) h,hi,hj⟩
 have k4:=of_decide_eq_false k4
 clear hs1 f8
 intros;refine gN ?_
 have hd:decide ((l.segs.length:Int)=256)=decide (l.segs.length=256):=decide_eq_decide.2 (by omega)
 intros;refine gr 63 65 ?_;refine sJ2 c69r14.eq_1 @hd ?_
 intros;refine gc ?_;refine sI ?_
 refine gb (fun k5=>?_) (fun k5=>?_)
 ·have k5:=of_decide_eq_true k5
  intros;refine gr 66 67 ?_;refine sJ c69r15.eq_1 ?_
  intros;refine rV ?_;simp only[push_cast,Nat.reduceBEq]
  rw[appL,if_pos k0,if_pos k1,if_neg k2,if_neg k3,e3,if_neg k4,if_pos k5]
  exact noneL_r
 have k5:=of_decide_eq_false k5
 have hxe:appL l x=(⟨l.limit,l.start,l.segs++[⟨x.base,bytesB x⟩]⟩,0):=by
  rw[appL,if_pos k0,if_pos k1,if_neg k2,if_neg k3,e3,if_neg k4,if_neg k5]
 have hof:=of_one (limO_of c1) k1 (show((bytesB x).length:Int)≤l.limit by omega)
 have hxi:I64 x.base:=by obtain⟨_,_,_,_,h,-⟩:=hx0;exact h
 rw[hxe]
 clear hxe
 intros;refine gN ?_
 intros;refine gr 67 77 ?_;refine sJ c69r16.eq_1 ?_
 intro b9 hb9
 refine sI ?_
 refine calls_gx0 F123.enters (gx_slv_at [] _ (by decide) (Cells.one (E:=BE G2) (x:=x) (BE.le hg1 hx0) rfl)) ?_
 rintro h' ⟨G3,rfl,hg3,hv3⟩
 refine(Of_ok x.base l.limit [x] _ G3 (hv3.le (.refl _) fun _ _ h=>BE.le hg3 h) hxi hi _ _).mono ?_
 rw[hof]
 rintro r h' ⟨G4,rfl,hg4,A5,c5,rfl,hs5⟩
 have hg14:=hg1.trans (hg3.trans hg4)
 have hse2:SE G4 ⟨x.base,bytesB x⟩ [.int .i64 x.base,.slice A5 (bytesB x).length c5]:=⟨A5,c5,rfl,hs5,hxi⟩
 have hse2:SE G4 ⟨x.base,bytesB x⟩ [.int .i64 (⟨x.base,bytesB x⟩:Sg).base,.slice A5 (⟨x.base,bytesB x⟩:Sg).bytes.length c5]:=hse2
 generalize (⟨x.base,bytesB x⟩:Sg)=s' at *
 refine sI ?_
 intros;refine gr 77 78 ?_;refine sJ c69r17.eq_1 ?_
 have hz0:decide ((0:Int)≠0)=false:=by decide
 refine sJ @hz0 ?_
 intros;refine gc ?_;refine sI ?_
 intros;refine gN ?_
 have hsl1:SlV G4 (SE G4) 2 (.slice A l.segs.length c) l.segs:=SlSE.le hg14 ⟨A,c,rfl,hc,hmx,hA⟩
 have hcl:=CloneS_ok l.segs _ G4 hsl1 (by omega)
 have hs5:SB G4 (.slice A5 s'.bytes.length c5) s'.bytes:=hs5
 (intros;try refine go_st ?_);refine go_z _ (.cons_cons _ (.cons _ (List.Sublist.refl _))) (by decide) ?_;refine sJ c69r19.eq_1 ?_
 refine⟨?_,?_⟩
 ·refine(ownN_sl hcl _ _).mono ?_
  rintro r h' ⟨G8,L',rfl,hg3,A4,c4,ys,rfl,-,hys,rfl⟩
  refine sI ?_
  refine⟨grow_L hg3 (.cons _ (.cons_cons _ (.cons _ (List.Sublist.refl _)))),?_⟩
  intro b9 hb9
  refine⟨grow_L hg3 (.cons _ (.cons _ (.cons_cons _ (.cons _ (List.Sublist.refl _))))),?_⟩
  refine sI ?_
  refine app1 (L1:=[]) (L2:=[_,_,_,_]) (E:=SE G4) (x:=s') rfl hse2 rfl (by simp[Value.oneCell']) hys (by omega) (by omega) fun A' c' zc' hzc'=>?_
  dsimp only
  generalize l.segs++[s']=ZS at *
  refine sI ?_
  refine⟨grow_L hg3 (.cons _ (.cons _ (.cons_cons _ (.cons _ (List.Sublist.refl _))))),?_⟩
  refine(with_ok _ _ _ _ _ _ _ _ _ _ _).mono ?_;rintro _ _ ⟨rfl,rfl⟩;refine sI ?_
  refine⟨grow_L hg3 (.cons _ (.cons _ (.cons_cons _ (.cons _ (List.Sublist.refl _))))),?_⟩
  refine sI ?_
  refine⟨grow_L hg3 (.cons _ (.cons _ (.cons_cons _ (.cons _ (List.Sublist.refl _))))),?_⟩
  refine sI ?_
  (intros;try refine go_st ?_)
  refine go_gx (gx_slv_at [_] _ (by decide) hzc') ?_
  rintro h' ⟨G9,rfl,hg9,hv9⟩
  intros;refine rV ?_;simp only[push_cast,Nat.reduceBEq]
  exact⟨_,rfl,A',c',rfl,hv9.le (.refl _) fun _ _ h=>SE.le (hg3.trans hg9) h,hi,hj⟩
 ·intro b9 hb9
  refine⟨grow_L (fun _ _ h=>h) (.cons _ (.cons_cons _ (.cons _ (List.Sublist.refl _)))),?_⟩
  refine(ownN_sl hcl _ _).mono ?_
  rintro r h' ⟨G8,L',rfl,hg3,A4,c4,ys,rfl,-,hys,rfl⟩
  refine sI ?_
  refine⟨grow_L hg3 (.cons _ (.cons _ (.cons_cons _ (.cons _ (List.Sublist.refl _))))),?_⟩
  refine sI ?_
  refine app2 (L2:=[_,_,_,_]) (E:=SE G4) (x:=s') rfl hse2 rfl (by simp[Value.oneCell']) hys (by omega) (by omega) fun A' c' zc' hzc'=>?_
  dsimp only
  generalize l.segs++[s']=ZS at *
  refine sI ?_
  refine⟨grow_L hg3 (.cons _ (.cons _ (.cons_cons _ (.cons _ (List.Sublist.refl _))))),?_⟩
  refine(with_ok _ _ _ _ _ _ _ _ _ _ _).mono ?_;rintro _ _ ⟨rfl,rfl⟩;refine sI ?_
  refine⟨grow_L hg3 (.cons _ (.cons _ (.cons_cons _ (.cons _ (List.Sublist.refl _))))),?_⟩
  refine sI ?_
  refine⟨grow_L hg3 (.cons _ (.cons _ (.cons_cons _ (.cons _ (List.Sublist.refl _))))),?_⟩
  refine sI ?_
  (intros;try refine go_st ?_)
  refine go_gx (gx_slv_at [] _ (by decide) hzc') ?_
  rintro h' ⟨G9,rfl,hg9,hv9⟩
  intros;refine rV ?_;simp only[push_cast,Nat.reduceBEq]
  exact⟨_,rfl,A',c',rfl,hv9.le (.refl _) fun _ _ h=>SE.le (hg3.trans hg9) h,hi,hj⟩
theorem F76:Fun Tryz.prog 76 6 v76 c76 o76:=Fun.mkA Tryz.func76 Tryz.ntmps76
theorem F130:Fun Tryz.prog 130 40 v130 c130 o130:=Fun.mkA Tryz.func130 Tryz.ntmps130
theorem F129:Fun Tryz.prog 129 13 v129 c129 o129:=Fun.mkA Tryz.func129 Tryz.ntmps129
theorem F75:Fun Tryz.prog 75 5 v75 c75 o75:=Fun.mkA Tryz.func75 Tryz.ntmps75
theorem F27:Fun Tryz.prog 27 11 v27 c27 o27:=Fun.mkA Tryz.func27 Tryz.ntmps27
def EBx(G:Nat→Option Obj)(x:Batch)(args:Array Value):Prop:=∃ cs,BE G x cs∧args=#[.agg cs.toArray]
theorem bsS_take{l:List Sg}{k:Nat}{s:Sg}(h:l[k]?=some s):bsS (l.take (k+1))=bsS (l.take k)++scanB s:=by
 rw[take_snoc' h,bsS_app,bsS_cons,bsS_nil,List.append_nil]
theorem reach_one(off:Int)(x:Batch):reach off [x]=if off≤x.last then[x]else[]:=by
 unfold reach
 by_cases h:off≤x.last <;> simp[h]
theorem reach_at{off:Int}{l:List Sg}{k j:Nat}{s:Sg}{x:Batch}(hs:l[k]?=some s)(hx:(scanB s)[j]?=some x)(hf:off≤x.last):
  (reach off (bsS l))[(reach off (bsS (l.take k))).length+(reach off ((scanB s).take j)).length]?=some x:=by
 have e1:bsS l=bsS (l.take k)++(((scanB s).take j++x :: (scanB s).drop (j+1))++bsS (l.drop (k+1))):=by
  rw[← split_at hx,← bsS_cons,← bsS_app,← split_at hs]
 have e2:reach off (x :: (scanB s).drop (j+1))=x :: reach off ((scanB s).drop (j+1)):=by
  unfold reach
  rw[List.filter_cons,if_pos (by simp[hf])]
 rw[e1,reach_app,reach_app,reach_app,e2]
 simp
set_option maxHeartbeats 1000000 in
theorem batches1_iter(l:Lg)(off:Int)(A:Option Addr)(c b1 b2:Nat)(G0:Nat→Option Obj)(hl:SlV G0 (SE G0) 2 (.slice A l.segs.length c) l.segs)(hb:smL l.segs)(h1:cellG G0 ⟨b1,2,none⟩=some (.slice A l.segs.length c))(h2:cellG G0 ⟨b2,0,none⟩=some (.int .i64 off)):
  IterH Tryz.prog 130 #[.pointer (some ⟨b1,0,none⟩),.pointer (some ⟨b2,0,none⟩)] (reach off (bsS l.segs)) EBx G0:=by
 intro yl I Ix G L hG hn hI hIx hmo hi0 hy L2 D
 have hargs:(#[.func (.yield yl) #[] #[]]++#[.pointer (some ⟨b1,0,none⟩),.pointer (some ⟨b2,0,none⟩)]:Array Value)=#[.func (.yield yl) #[] #[],.pointer (some ⟨b1,0,none⟩),.pointer (some ⟨b2,0,none⟩)]:=rfl
 rw[hargs]
 have hat:=fun k j s x=>@reach_at off l.segs k j s x
 have htot:(reach off (bsS (l.segs.take l.segs.length))).length=(reach off (bsS l.segs)).length:=by rw[List.take_length]
 generalize reach off (bsS l.segs)=T at *
 refine(F130.calls (R:=fun _ h=>Gle G h.G∧(I T.length h.G h.L∨∃ i,i < T.length∧Ix i h.G h.L)) (by simp) hn (go_of ?_) L2 D).mono ?_
 rotate_left
 ·rintro v h' ⟨G',L',rfl,hn',hgg,hr⟩
  exact⟨G',L',rfl,hgg,hn',hr⟩
 have e1:=cellG_le hG h1
 have e2:=cellG_le hG h2
 have hlG:=SlSE.le hG hl
 obtain⟨A0,c0,he,hc,hmx,hA⟩:=id hlG
 cases he
 unfold c130
 intros;refine gr 10 11 ?_;refine sJ c130r0.eq_1 ?_
 refine⟨_,⟨_,rfl,.g e1⟩,?_⟩
 refine sI ?_
 (intros;try refine go_st ?_)
 refine go_loop (fun e h=>∃ (k:Nat) (G':Nat→Option Obj) (L' Lh:List Kx.Item),(k≤l.segs.length∧Gle G G'∧NoRegs L'∧I (reach off (bsS (l.segs.take k))).length G' L')∧e 13=.int .i64 k∧e 12=.int .i64 l.segs.length∧e 11=.slice A l.segs.length c∧e 0=.func (.yield yl) #[] #[]∧e 2=.pointer (some ⟨b2,0,none⟩)∧h=⟨G',Lh,[]⟩∧L'.Sublist Lh) (fun e h=>l.segs.length - iv (e 13)) ?_ ?_
 ·exact⟨0,G,L,L,⟨Nat.zero_le _,.refl G,hn,hi0⟩,eE,eE,eE,eE,eE,rfl,List.Sublist.refl _⟩
 rintro e h ⟨k,G',L',Lh,⟨hk,hgg,hn',hI'⟩,e13,e12,e11,e00,e22,rfl,hsub⟩
 refine go_keep [0,2,11,12,13] ?_
 refine sJ5 @e00 @e22 @e11 @e12 @e13 ?_
 intros
 refine go_ghost (ghost_sub hsub) ?_
 have hrm5:=rmR_no (s:=5) hn'
 intros;refine gr 0 0 ?_;refine sJ c130r1.eq_1 ?_
 intros;refine gc ?_;refine sI ?_
 refine gb (fun ht=>?_) (fun ht=>?_)
 ·have ht:k < l.segs.length:=by have:=of_decide_eq_true ht;omega
  have hw:=inc_i k c (by omega) hmx
  obtain⟨s,hs⟩:∃ s,l.segs[k]?=some s:=⟨l.segs[k],List.getElem?_eq_getElem (by omega)⟩
  have hbs:=hb s (List.mem_of_getElem? hs)
  have hlG':=SlSE.le hgg hlG
  obtain⟨A0,c0,he,-,-,hA'⟩:=hlG'
  cases he
  intros;refine gN ?_
  intros;refine gr 15 17 ?_;refine sJ c130r2.eq_1 ?_
  refine hA'.x_ld hs rfl rfl ?_
  rintro a1 ha1 cs hse
  have hscan:=Scan_ok s cs G' hse (by omega)
  obtain⟨B,d,rfl,hsb,hsi⟩:=hse
  unfold cellS at hscan ⊢
  refine sJ @hrm5 ?_
  intros;refine gr 17 22 ?_;refine sJ c130r3.eq_1 ?_
  refine(hscan _ _).mono ?_
  rintro r h' ⟨G1,L1,rfl,hg1,u,zc,rfl,hzc,rfl⟩
  refine sI ?_
  intros;try refine go_seq ?_
  refine go_gx (gx_slv_at [] _ (by decide) hzc) ?_
  rintro h' ⟨G2,rfl,hg2,hv2⟩
  have hv2:SlV G2 (BE G2) 10 u (scanB s):=hv2.le (.refl _) fun _ _ h=>BE.le hg2 h
  have hbt:=bsS_take hs
  have hat':=fun j x=>hat k j s x hs
  obtain⟨rr,hsc⟩:=scan_spec s
  have hlen:=hsc.len
  generalize scanB s=bs at *
  obtain⟨A2,c2,rfl,hc2,hm2,hA2⟩:=hv2
  have hgg2:=hgg.trans (hg1.trans hg2)
  have hI2:=hmo _ _ _ _ (hg1.trans hg2) hI'
  intros;refine gr 0 0 ?_;refine sJ c130r4.eq_1 ?_
  intros
  refine go_cut (fun e h=>∃ (G':Nat→Option Obj) (L' Lh:List Kx.Item),(Gle G G'∧NoRegs L'∧I (reach off (bsS (l.segs.take (k+1)))).length G' L')∧e 13=.int .i64 k∧e 12=.int .i64 l.segs.length∧e 11=.slice A l.segs.length c∧e 0=.func (.yield yl) #[] #[]∧e 2=.pointer (some ⟨b2,0,none⟩)∧h=⟨G',Lh,[]⟩∧L'.Sublist Lh) ?_ ?_
  ·(intros;try refine go_st ?_)
   refine go_loop (fun e h=>∃ (j:Nat) (G':Nat→Option Obj) (L' Lh:List Kx.Item),(j≤bs.length∧Gle G2 G'∧NoRegs L'∧I ((reach off (bsS (l.segs.take k))).length+(reach off (bs.take j)).length) G' L')∧e 24=.int .i64 j∧e 23=.int .i64 bs.length∧e 22=.slice A2 bs.length c2∧e 13=.int .i64 k∧e 12=.int .i64 l.segs.length∧e 11=.slice A l.segs.length c∧e 0=.func (.yield yl) #[] #[]∧e 2=.pointer (some ⟨b2,0,none⟩)∧h=⟨G',Lh,[]⟩∧L'.Sublist Lh) (fun e h=>bs.length - iv (e 24)) ?_ ?_
   ·exact⟨0,G2,L',_,⟨Nat.zero_le _,.refl _,hn',hI2⟩,eE,eE,eE,eE,eE,eE,eE,eE,rfl,.cons _ (List.Sublist.refl _)⟩
   rintro e h ⟨j,G3,L3,Lh,⟨hj,hg3,hn3,hI3⟩,e24,e23,e22',e13,e12,e11,e00,e22,rfl,hsub⟩
   refine go_keep [0,2,11,12,13,22,23,24] ?_
   (try simp -implicitDefEqProofs only[kR_e,kQ_e,push_cast,Nat.reduceBEq,Nat.reduceAdd,Nat.reduceSub,Nat.reduceMul,Nat.reduceLT,Nat.reduceLeDiff,Nat.reduceEqDiff,reduceIte,Bool.not_true,Bool.not_false,true_and,and_true,Option.map_some,Option.bind_some,Int.toNat_natCast,e00,e22,e11,e12,e13,e22',e23,e24])
   intros
   refine go_ghost (ghost_sub hsub) ?_
   have hrm9:=rmR_no (s:=9) hn3
   have e2':=cellG_le (hgg2.trans hg3) e2
   intros;refine gr 0 0 ?_;refine sJ c130r5.eq_1 ?_
   intros;refine gc ?_;refine sI ?_
   refine gb (fun ht2=>?_) (fun ht2=>?_)
   ·have ht2:j < bs.length:=by have:=of_decide_eq_true ht2;omega
    have hw2:=inc_i j c2 (by omega) hm2
    obtain⟨x,hx⟩:∃ x,bs[j]?=some x:=⟨bs[j],List.getElem?_eq_getElem (by omega)⟩
    have hA3:=hA2.le hg3 (E':=BE G3) fun _ _ h=>BE.le hg3 h
    have hrt:reach off (bs.take (j+1))=reach off (bs.take j)++(if off≤x.last then[x]else[]):=by rw[take_snoc' hx,reach_app,reach_one]
    intros;refine gN ?_
    intros;refine gr 26 28 ?_;refine sJ c130r6.eq_1 ?_
    refine hA3.x_ld hx rfl rfl ?_
    rintro a3 ha3 cs hbe
    have hbe0:=hbe
    obtain⟨B3,d3,rfl,-⟩:=hbe
    unfold cellH at hbe0 ⊢
    refine sJ @hrm9 ?_
    intros;refine gr 29 37 ?_;refine sJ c130r7.eq_1 ?_
    refine⟨_,⟨_,rfl,.g e2'⟩,?_⟩
    refine sI ?_
    refine gd (fun k1=>?_) (fun k1=>?_)
    ·have k1:=of_decide_eq_true k1
     rw[if_pos k1]at hrt
     have hlen2:(reach off (bsS (l.segs.take k))).length+(reach off (bs.take j)).length+1=(reach off (bsS (l.segs.take k))).length+(reach off (bs.take (j+1))).length:=by rw[hrt,List.length_append];rfl
     have hxT:=hat' j x hx k1
     refine sI ?_
     refine .inr ⟨yl,rfl,?_⟩
     refine YieldH.ghost (ghost_perm (List.perm_append_comm (l₁:=[_]))) ?_
     refine(hy _ x _ G3 L3 hxT (hgg2.trans hg3) ⟨_,hbe0,rfl⟩ hI3 [_] []).mono ?_
     rintro v h' ⟨G4,L4,rfl,hg4,hn4,hr⟩
     rcases hr with⟨rfl,hr⟩ | ⟨rfl,hr⟩
     ·refine sI ?_
      intros;refine gc ?_;refine sI ?_
      refine go_ghost (ghost_sub (List.sublist_append_left _ _)) ?_
      intros;refine gr 38 39 ?_;refine sJ2 c130r8.eq_1 @hw2 ?_
      (intros;try refine go_st ?_)
      rw[hlen2]at hr
      refine go_l ⟨⟨j+1,G4,L4,_,⟨by omega,hg3.trans hg4,hn4,hr⟩,eE,eE,eE,eE,eE,eE,eE,eE,rfl,List.Sublist.refl _⟩,?_⟩
      refine sI ?_
      omega
     ·refine sI ?_
      intros;refine gc ?_;refine sI ?_
      (intros;try refine go_st ?_)
      refine go_ret (retQ_o L4 rfl (List.sublist_append_left _ _) hn4 ?_)
      exact⟨hgg2.trans (hg3.trans hg4),.inr ⟨_,(List.getElem?_eq_some_iff.1 hxT).1,hr⟩⟩
    ·have k1:=of_decide_eq_false k1
     rw[if_neg k1,List.append_nil]at hrt
     refine sI ?_
     intros;refine gc ?_;refine sI ?_
     refine go_ghost (ghost_sub (L':=L3) (.cons _ (List.Sublist.refl _))) ?_
     intros;refine gr 38 39 ?_;refine sJ2 c130r8.eq_1 @hw2 ?_
     (intros;try refine go_st ?_)
     refine go_l ⟨⟨j+1,G3,L3,_,⟨by omega,hg3,hn3,by rw[hrt];exact hI3⟩,eE,eE,eE,eE,eE,eE,eE,eE,rfl,List.Sublist.refl _⟩,?_⟩
     refine sI ?_
     omega
   ·have ht2:j=bs.length:=by have:=of_decide_eq_false ht2;omega
    subst ht2
    rw[List.take_length]at hI3
    refine go_exit ?_
    refine sI ?_
    intros;refine gN ?_
    exact go_l ⟨G3,L3,_,⟨hgg2.trans hg3,hn3,by rw[hbt,reach_app,List.length_append];exact hI3⟩,eE,eE,eE,eE,eE,rfl,List.Sublist.refl _⟩
  rintro e h ⟨G3,L3,Lh,⟨hg3,hn3,hI3⟩,e13,e12,e11,e00,e22,rfl,hsub⟩
  refine go_keep [0,2,11,12,13] ?_
  refine sJ5 @e00 @e22 @e11 @e12 @e13 ?_
  intros
  refine go_ghost (ghost_sub hsub) ?_
  intros;refine gr 39 40 ?_;refine sJ2 c130r9.eq_1 @hw ?_
  (intros;try refine go_st ?_)
  refine go_l ⟨⟨k+1,G3,L3,_,⟨by omega,hg3,hn3,hI3⟩,eE,eE,eE,eE,eE,rfl,List.Sublist.refl _⟩,?_⟩
  refine sI ?_
  omega
 ·have ht:k=l.segs.length:=by have:=of_decide_eq_false ht;omega
  subst ht
  rw[htot]at hI'
  refine go_exit ?_
  refine sI ?_
  (intros;try refine go_st ?_)
  refine go_nil ?_
  exact⟨[],rfl,⟨G',L',[]⟩,ghost_sub (List.Sublist.refl _),hn',hgg,.inl hI'⟩
theorem batches_ok(l:Lg)(off:Int)(cs:List Value)(G:Nat→Option Obj)(hl:LE G l cs)(hb:smL l.segs):
  FnD Tryz.prog 76 #[.agg cs.toArray,.int .i64 off] G (fun G' r=>∃ b1 b2,r=.func (.func 130) #[] #[.pointer (some ⟨b1,0,none⟩),.pointer (some ⟨b2,0,none⟩)]∧IterH Tryz.prog 130 #[.pointer (some ⟨b1,0,none⟩),.pointer (some ⟨b2,0,none⟩)] (reach off (bsS l.segs)) EBx G'):=by
 obtain⟨A,c,rfl,hsl,hi,hj⟩:=hl
 refine F76.fnD (by simp) (go_of ?_)
 unfold c76 cellL
 intros;refine gr 0 0 ?_;refine sJ c76r0.eq_1 ?_
 intro b1 hb1 b2 hb2
 (intros;try refine go_st ?_)
 refine go_gx gx_blk ?_
 rintro h' ⟨G1,rfl,hg1,f2⟩
 refine go_gx gx_blk ?_
 rintro h' ⟨G2,rfl,hg2,f1⟩
 have e1:=f1 2 _ rfl
 have e2:=cellG_le hg2 (f2 0 _ rfl)
 rw[add_off]at e1 e2
 intros;refine gr 5 6 ?_;refine sJ c76r1.eq_1 ?_
 intros;refine rV ?_;simp only[push_cast,Nat.reduceBEq]
 exact⟨b1,b2,rfl,batches1_iter l off A c b1 b2 G2 (SlSE.le (hg1.trans hg2) hsl) hb e1 e2⟩
theorem AppendSeq_ok(T:List Batch)(gf:Nat)(cap:Array Value)(G:Nat→Option Obj)(hit:IterH Tryz.prog gf cap T EBx G)(hEn:Enters Tryz.prog gf)(hT:T.length≤1000000):
  FnO Tryz.prog 129 #[.slice none 0 0,.func (.func gf) #[] cap] G [] (fun G' L' r=>OwnL (BE G') 43 10 T L' r):=by
 refine F129.fnO (by simp) noRegs_nil (go_of ?_)
 unfold c129
 intros;refine gr 0 0 ?_;refine sJ c129r0.eq_1 ?_
 intro b2 hb2
 intros;refine gr 0 0 ?_;refine sJ c129r1.eq_1 ?_
 (intros;try refine go_st ?_)
 refine go_ghost (ghost_nil none 43 10) ?_
 refine go_rf (α:=Batch) (fun k G' L'=>∃ u zc,L'=[.row u 43 10 (T.take k).length zc,.blk b2 [u]]∧Cells (BE G') 10 (T.take k) zc) (fun _ _ _ _=>False) (eE) hEn (noRegs_row (noRegs_blk noRegs_nil))
  (fun i G G' L hg ⟨u,zc,h1,h2⟩=>⟨u,zc,h1,cells_imp h2 fun _ _ h=>BE.le hg h⟩) hit (fun G x args h=>by obtain⟨_,_,rfl⟩:=h;rfl) ⟨_,[],rfl,.nil⟩ ?_ ?_ ?_
 ·rintro yl k x args G' L' hx hgl ⟨cs,hbe,rfl⟩ ⟨u,zc,rfl,hzc⟩ _
  have hkl:k < T.length:=(List.getElem?_eq_some_iff.1 hx).1
  have hbe0:=hbe
  obtain⟨B,d,rfl,-⟩:=hbe
  unfold cellH at hbe0 ⊢
  refine sI ?_
  intros;refine gr 0 0 ?_;refine sJ c129r2.eq_1 ?_
  intro bb
  refine go_nil (rnd_a ?_)
  have htk:T.take (k+1)=T.take k++[x]:=take_snoc' hx
  have hkl2:(T.take k).length≤T.length:=by rw[List.length_take];omega
  have hkl3:(T.take k).length=k:=by rw[List.length_take];omega
  intros;refine gr 8 12 ?_;refine sJ c129r3.eq_1 ?_
  refine⟨_,ldN_blk (.tail _ (.tail _ (.head _))) rfl,?_⟩
  refine sI ?_
  intro bk hbk
  refine app1 (L1:=[_]) (L2:=[_]) (E:=BE G') (x:=x) rfl hbe0 rfl (by simp[Value.oneCell']) hzc (by omega) (by omega) fun A' c' zc' hzc'=>?_
  rw[← htk]at hzc' ⊢
  refine sI ?_
  refine stX_blk [_,_,_] [] rfl (by simp) ⟨rfl,rfl⟩ ?_
  refine sI ?_
  (intros;try refine go_st ?_)
  refine go_nil (rnd_n _ (.cons _ (.cons _ (List.Sublist.refl _))) (noRegs_row (noRegs_blk noRegs_nil)) ⟨_,zc',rfl,hzc'⟩)
 ·rintro G' L' dd hgl ⟨u,zc,rfl,hzc⟩ _
  rw[List.take_length]at hzc ⊢
  refine go_b ?_
  intros;refine gr 12 13 ?_;refine sJ c129r4.eq_1 ?_
  refine⟨_,ldN_blk (.tail _ (.head _)) rfl,?_⟩
  refine sI ?_
  (intros;try refine go_st ?_)
  refine go_ret (retQ_o _ rfl (.cons_cons _ (List.nil_sublist _)) (noRegs_row noRegs_nil) ?_)
  exact⟨zc,hzc,rfl⟩
 ·rintro ex i G' L' d _ _ h
  exact h.elim
theorem Collect_ok(T:List Batch)(gf:Nat)(cap:Array Value)(G:Nat→Option Obj)(hit:IterH Tryz.prog gf cap T EBx G)(hEn:Enters Tryz.prog gf)(hT:T.length≤1000000):
  FnO Tryz.prog 75 #[.func (.func gf) #[] cap] G [] (fun G' L' r=>OwnL (BE G') 43 10 T L' r):=by
 refine F75.fnO (by simp) noRegs_nil (go_of ?_)
 unfold c75
 intros;refine gr 0 0 ?_;refine sJ c75r0.eq_1 ?_
 intros;refine gr 3 5 ?_;refine sJ c75r1.eq_1 ?_
 refine(AppendSeq_ok T gf cap G hit hEn hT _ _).mono ?_
 rintro r h' ⟨G1,L',rfl,hg1,zc,hzc,rfl⟩
 refine sI ?_
 (intros;try refine go_st ?_)
 refine go_ret (retQ_o _ rfl (List.Sublist.refl _) (noRegs_row noRegs_nil) ?_)
 exact⟨zc,hzc,rfl⟩
theorem len_allB(l:List Batch):9 * l.length≤(allB l).length:=by
 induction l with
 | nil=>simp
 | cons x l ih =>
  have:=bytesB_pos x
  rw[allB_cons,List.length_append,List.length_cons]
  omega
theorem chk_len{l:Lg}(h:chkL l=0):(allB (bsS l.segs)).length≤1048576:=by
 obtain⟨h1,h2,h3,h4⟩:=chkL_0 h
 have h5:=(mayO_iff.1 h1).1.2
 have h6:=sizS_le h3
 have h7:=bsS_len h3
 have h9:l.limit * (l.segs.length:Int)≤4096 * 256:=Int.mul_le_mul h5 (by omega) (by omega) (by omega)
 omega
theorem reach_cnt{l:Lg}(off:Int)(h:chkL l=0):(allB (reach off (bsS l.segs))).length≤1048576∧(reach off (bsS l.segs)).length≤1000000:=by
 have h1:=chk_len h
 have h2:=reach_len off (bsS l.segs)
 have h3:=len_allB (reach off (bsS l.segs))
 omega
theorem All_ok(l:Lg)(cs:List Value)(G:Nat→Option Obj)(hl:LE G l cs)(hb:smL l.segs):FnD Tryz.prog 27 #[.agg cs.toArray] G (fun G' r=>SlV G' (BE G') 10 r (AllL l)):=by
 have hl0:=hl
 have hchk:=ChkL_ok l cs G hl hb
 obtain⟨A,c,rfl,hsl,hi,hj⟩:=hl
 refine F27.fnD (by simp) (go_of ?_)
 unfold c27
 unfold cellL at hchk hl0 ⊢
 intros;refine gr 0 0 ?_;refine sJ c27r0.eq_1 ?_
 intros;refine gr 3 5 ?_;refine sJ c27r1.eq_1 ?_
 refine(hchk _ _).mono ?_;rintro _ _ ⟨rfl,rfl⟩;refine sI ?_
 intros;refine gc ?_;refine sI ?_
 refine gb (fun k1=>?_) (fun k1=>?_)
 ·have k1:=of_decide_eq_true k1
  intros;refine gr 0 0 ?_;refine sJ c27r2.eq_1 ?_
  intros;refine rV ?_;simp only[push_cast,Nat.reduceBEq]
  rw[AllL,if_neg k1]
  exact slN
 have k1:chkL l=0:=by simpa using k1
 intros;refine gN ?_
 intros;refine gr 6 11 ?_;refine sJ c27r3.eq_1 ?_
 refine(batches_ok l l.start _ G hl0 hb _ _).mono ?_
 rintro r h' ⟨G1,rfl,hg1,b1,b2,rfl,hit⟩
 refine sI ?_
 refine(Collect_ok _ _ _ G1 hit F130.enters (reach_cnt _ k1).2 _ _).mono ?_
 rintro r h' ⟨G2,L',rfl,hg2,zc,hzc,rfl⟩
 refine sI ?_
 intros;try refine go_seq ?_
 refine go_gx (gx_slv_at [] _ (by decide) hzc) ?_
 rintro h' ⟨G3,rfl,hg3,hv3⟩
 intros;refine rV ?_;simp only[push_cast,Nat.reduceBEq]
 rw[AllL,if_pos k1]
 exact hv3.le (.refl _) fun _ _ h=>BE.le hg3 h
theorem F188:Fun Tryz.prog 188 22 v188 c188 o188:=Fun.mkA Tryz.func188 Tryz.ntmps188
theorem F189:Fun Tryz.prog 189 33 v189 c189 o189:=Fun.mkA Tryz.func189 Tryz.ntmps189
theorem F167:Fun Tryz.prog 167 12 v167 c167 o167:=Fun.mkA Tryz.func167 Tryz.ntmps167
def cutL(l:Lg)(off:Int)(p:Lg):Lg × Int:=if chkL l=0 then if betw l off=true then(p,0)else(noneL,90)else(noneL,chkL l)
def LgV(p:Lg)(G:Nat→Option Obj)(r:Value):Prop:=∃ cs,r=.agg cs.toArray∧LE G p cs
theorem cut_ok(l:Lg)(off:Int)(f:Nat)(cap:Array Value)(p:Lg)(cs:List Value)(G:Nat→Option Obj)(hl:LE G l cs)(hb:smL l.segs)(hm:l.segs.length≤1000000)
  (hf:chkL l=0→betw l off=true→FnD Tryz.prog f cap G (LgV p)) :
  FnD Tryz.prog 188 #[.agg cs.toArray,.int .i64 off,.func (.func f) #[] cap] G (LgR (cutL l off p)):=by
 have hl0:=hl
 have hchk:=ChkL_ok l cs G hl hb
 have hbt:=between_ok l off cs G hl hb
 obtain⟨A,c,rfl,hsl,hi,hj⟩:=hl
 refine F188.fnD (by simp) (go_of ?_)
 unfold c188
 unfold cellL at hchk hbt hl0 ⊢
 intros;refine gr 0 0 ?_;refine sJ c188r0.eq_1 ?_
 intros;refine gr 9 11 ?_;refine sJ c188r1.eq_1 ?_
 refine(hchk _ _).mono ?_;rintro _ _ ⟨rfl,rfl⟩;refine sI ?_
 intros;refine gr 11 12 ?_;refine sJ c188r2.eq_1 ?_
 intros;refine gc ?_;refine sI ?_
 refine gb (fun k1=>?_) (fun k1=>?_)
 ·have k1:=of_decide_eq_true k1
  intros;refine gr 13 15 ?_;refine sJ c188r3.eq_1 ?_
  intros;refine rV ?_;simp only[push_cast,Nat.reduceBEq]
  rw[cutL,if_neg k1]
  exact noneL_r
 have k1:chkL l=0:=by simpa using k1
 obtain⟨c1,c2,c3,c4⟩:=chkL_0 k1
 intros;refine gN ?_
 intros;refine gr 15 18 ?_;refine sJ c188r4.eq_1 ?_
 refine(hbt c2 hm _ _).mono ?_;rintro _ _ ⟨rfl,rfl⟩;refine sI ?_
 intros;refine gc ?_;refine sI ?_
 refine gb (fun k2=>?_) (fun k2=>?_)
 ·have k2:betw l off=false:=by simpa using k2
  intros;refine gr 19 20 ?_;refine sJ c188r5.eq_1 ?_
  intros;refine rV ?_;simp only[push_cast,Nat.reduceBEq]
  rw[cutL,if_pos k1,if_neg (by rw[k2];simp)]
  exact noneL_r
 have k2:betw l off=true:=by simpa using k2
 intros;refine gN ?_
 intros;refine gr 20 22 ?_;refine sJ c188r6.eq_1 ?_
 refine .inl ⟨f,cap,rfl,?_⟩
 rw[show(#[]++cap:Array Value)=cap by simp]
 refine(hf k1 k2 _ _).mono ?_
 rintro r h' ⟨G1,rfl,hg1,cs,rfl,hle⟩
 obtain⟨A1,c1,rfl,hs1⟩:=hle
 unfold cellL
 refine sI ?_
 intros;refine rV ?_;simp only[push_cast,Nat.reduceBEq]
 rw[cutL,if_pos k1,if_pos k2]
 exact⟨_,rfl,A1,c1,rfl,hs1⟩
def firstI{α:Type}(p:α→Bool):List α→Nat→Int
 | [],_=>-1
 | x :: l,i=>if p x=true then(i:Int)else firstI p l (i+1)
theorem firstI_at{α:Type}{p:α→Bool}{l:List α}{k:Nat}{x:α}(h:l[k]?=some x)(i:Nat):firstI p (l.drop k) i=if p x=true then(i:Int)else firstI p (l.drop (k+1)) (i+1):=by
 obtain⟨h1,h2⟩:=List.getElem?_eq_some_iff.1 h
 rw[List.drop_eq_getElem_cons h1,h2,firstI]
theorem ownSg_d{P:Program}{f:FuncId}{args:Array Value}{G:Nat→Option Obj}{s:Sg}(hf:FnO P f args G [] (fun _ L' r=>OwnSg s L' r)):FnD P f args G (fun G' r=>∃ A c,r=.agg #[.int .i64 s.base,.slice A s.bytes.length c]∧SB G' (.slice A s.bytes.length c) s.bytes) :=
 FnO.fnD (L1:=[]) (ownSg_sl hf) fun G' L' v ⟨A,c,zc,h1,_,h2,h3⟩ _ L D=>by
  subst h2
  exact(gx_slv (by decide) h3).mono fun h' ⟨G2,e1,e2,e3⟩=>⟨G2,e1,e2,A,c,h1,e3⟩
theorem truS_take{l:List Sg}{k:Nat}{s:Sg}(to:Int)(h:l[k]?=some s):truS (l.take (k+1)) to=truS (l.take k) to++if s.base < to then[cutS s to]else[]:=by
 unfold truS
 rw[take_snoc' h,List.filter_append,List.map_append]
 congr 1
 by_cases hh:s.base < to <;> simp[hh]
theorem truS_len(l:List Sg)(to:Int):(truS l to).length≤l.length:=by
 unfold truS
 rw[List.length_map]
 exact List.length_filter_le _ _
theorem Truncate1_ok(l:Lg)(to:Int)(A:Option Addr)(c b2 b3:Nat)(G:Nat→Option Obj)(hsl:SlV G (SE G) 2 (.slice A l.segs.length c) l.segs)(hi:I64 l.limit)(hj:I64 l.start)(hb:smL l.segs)(hm:l.segs.length≤1000)(hto:I64 to)
  (h2:∀ j u,([.int .i64 l.limit,.int .i64 l.start,.slice A l.segs.length c]:List Value)[j]?=some u→cellG G (Addr.add ⟨b2,0,none⟩ j)=some u) (h3:cellG G ⟨b3,0,none⟩=some (.int .i64 to)) :
  FnD Tryz.prog 189 #[.pointer (some ⟨b2,0,none⟩),.pointer (some ⟨b3,0,none⟩)] G (LgV ⟨l.limit,l.start,truT l.segs to⟩):=by
 have hsl0:=hsl
 have h22:=h2 2 _ rfl
 rw[add_off]at h22
 obtain⟨A0,c0,he,hc,hmx,hA⟩:=hsl
 cases he
 refine F189.fnD (by simp) (go_of ?_)
 unfold c189
 intros;refine gr 0 0 ?_;refine sJ c189r0.eq_1 ?_
 intros;refine gr 0 0 ?_;refine sJ c189r1.eq_1 ?_
 intros;refine gr 6 7 ?_;refine sJ c189r2.eq_1 ?_
 refine⟨_,⟨_,rfl,.g h22⟩,?_⟩
 refine sI ?_
 intros
 refine go_ghost (ghost_nil none 120 2) ?_
 refine go_cut (fun e h=>∃ (G':Nat→Option Obj) (u:Value) (zc:List Value),(Gle G G'∧Cells (SE G') 2 (truS l.segs to) zc)∧e 3=u∧e 0=.pointer (some ⟨b2,0,none⟩)∧e 1=.pointer (some ⟨b3,0,none⟩)∧h=⟨G',[.row u 120 2 (truS l.segs to).length zc,.reg 2 [.int .i64 0,.int .i64 0,.slice none 0 0]],[]⟩) ?_ ?_
 ·(intros;try refine go_st ?_)
  refine go_loop (fun e h=>∃ (k:Nat) (G':Nat→Option Obj) (u:Value) (zc:List Value),(k≤l.segs.length∧Gle G G'∧Cells (SE G') 2 (truS (l.segs.take k) to) zc)∧e 9=.int .i64 k∧e 8=.int .i64 l.segs.length∧e 7=.slice A l.segs.length c∧e 3=u∧e 0=.pointer (some ⟨b2,0,none⟩)∧e 1=.pointer (some ⟨b3,0,none⟩)∧h=⟨G',[.row u 120 2 (truS (l.segs.take k) to).length zc,.reg 2 [.int .i64 0,.int .i64 0,.slice none 0 0]],[]⟩) (fun e h=>l.segs.length - iv (e 9)) ?_ ?_
  ·exact⟨0,G,.slice none 0 0,[],⟨Nat.zero_le _,.refl _,.nil⟩,eE,eE,eE,eE,eE,eE,rfl⟩
  rintro e h ⟨k,G',u,zc,⟨hk,hg',hzc⟩,e9,e8,e7,e3,e0,e1,rfl⟩
  refine go_keep [0,1,3,7,8,9] ?_
  refine sJ6 @e0 @e1 @e3 @e7 @e8 @e9 ?_
  intros;refine gr 0 0 ?_;refine sJ c189r3.eq_1 ?_
  intros;refine gc ?_;refine sI ?_
  refine gb (fun ht=>?_) (fun ht=>?_)
  ·have ht:k < l.segs.length:=by have:=of_decide_eq_true ht;omega
   have hw:=inc_i k c (by omega) hmx
   obtain⟨s,hs⟩:∃ s,l.segs[k]?=some s:=⟨l.segs[k],List.getElem?_eq_getElem (by omega)⟩
   have hbs:=hb s (List.mem_of_getElem? hs)
   have htr:=truS_take to hs
   have hA':=hA.le hg' (E':=SE G') fun _ _ h=>SE.le hg' h
   have h3':=cellG_le hg' h3
   have hlen:=truS_len (l.segs.take k) to
   rw[List.length_take]at hlen
   intros;refine gN ?_
   intros;refine gr 11 13 ?_;refine sJ c189r4.eq_1 ?_
   refine hA'.x_ld hs rfl rfl ?_
   rintro a1 ha1 cs hse
   have hcut:=ownSg_d (Cut_ok s to cs G' hse (by omega) hto)
   obtain⟨B,d,rfl,hsb,hsi⟩:=hse
   unfold cellS at hcut ⊢
   refine sI ?_
   intros;refine gr 14 16 ?_;refine sJ c189r5.eq_1 ?_
   refine⟨_,⟨_,rfl,.g h3'⟩,?_⟩
   refine sI ?_
   intros;refine gc ?_;refine sI ?_
   refine gb (fun k1=>?_) (fun k1=>?_)
   ·have k1:=of_decide_eq_true k1
    rw[if_pos k1]at htr
    intros;refine gr 17 23 ?_;refine sJ c189r6.eq_1 ?_
    refine⟨_,⟨_,rfl,.g h3'⟩,?_⟩
    refine sI ?_
    refine(hcut _ _).mono ?_
    rintro r h' ⟨G2,rfl,hg2,A2,c2,rfl,hs2⟩
    refine sI ?_
    intro bk hbk
    refine app1 (L1:=[_]) (L2:=[_]) (E:=SE G2) (x:=cutS s to) rfl ⟨A2,c2,rfl,hs2,hsi⟩ rfl (by simp[Value.oneCell']) (cells_imp hzc fun _ _ h=>SE.le hg2 h) (by omega) (by omega) fun A' c' zc' hzc'=>?_
    rw[← htr]at hzc' ⊢
    refine sI ?_
    intros
    refine go_ghost (ghost_sub (.cons _ (.cons _ (List.Sublist.refl _)))) ?_
    intros;refine gr 23 24 ?_;refine sJ2 c189r7.eq_1 @hw ?_
    (intros;try refine go_st ?_)
    refine go_l ⟨⟨k+1,G2,_,zc',⟨by omega,hg'.trans hg2,hzc'⟩,eE,eE,eE,eE,eE,eE,rfl⟩,?_⟩
    refine sI ?_
    omega
   ·have k1:=of_decide_eq_false k1
    rw[if_neg k1,List.append_nil]at htr
    intros;refine gN ?_
    refine go_ghost (ghost_sub (L':=[.row u 120 2 (truS (l.segs.take k) to).length zc,.reg 2 [.int .i64 0,.int .i64 0,.slice none 0 0]]) (.cons _ (List.Sublist.refl _))) ?_
    intros;refine gr 23 24 ?_;refine sJ2 c189r7.eq_1 @hw ?_
    (intros;try refine go_st ?_)
    rw[← htr]at hzc ⊢
    refine go_l ⟨⟨k+1,G',_,zc,⟨by omega,hg',hzc⟩,eE,eE,eE,eE,eE,eE,rfl⟩,?_⟩
    refine sI ?_
    omega
  ·have ht:k=l.segs.length:=by have:=of_decide_eq_false ht;omega
   subst ht
   rw[List.take_length]at hzc ⊢
   refine go_exit ?_
   refine sI ?_
   intros;refine gN ?_
   exact go_l ⟨G',u,zc,⟨hg',hzc⟩,eE,eE,eE,rfl⟩
 rintro e h ⟨G1,u,zc,⟨hg1,hzc⟩,e3,e0,e1,rfl⟩
 refine go_keep [0,1,3] ?_
 refine sJ3 @e0 @e1 @e3 ?_
 intros
 intros;try refine go_seq ?_
 refine go_gx (gx_knowS (.head _)) ?_
 rintro h' ⟨rfl,A2,c2,rfl,-,-⟩
 refine go_cut (fun e h=>∃ (A2:Option Addr) (c2:Nat) (zc:List Value) (Lh:List Kx.Item),Cells (SE G1) 2 (truT l.segs to) zc∧e 3=.slice A2 (truT l.segs to).length c2∧e 0=.pointer (some ⟨b2,0,none⟩)∧e 1=.pointer (some ⟨b3,0,none⟩)∧h=⟨G1,Lh,[]⟩∧([.row (.slice A2 (truT l.segs to).length c2) 120 2 (truT l.segs to).length zc,.reg 2 [.int .i64 0,.int .i64 0,.slice none 0 0]]:List Kx.Item).Sublist Lh) ?_ ?_
 ·intros;refine gr 24 26 ?_;refine sJ c189r8.eq_1 ?_
  intros;refine gc ?_;refine sI ?_
  refine gb (fun k1=>?_) (fun k1=>?_)
  ·have k1:truS l.segs to=[]:=List.eq_nil_of_length_eq_zero (by have:=of_decide_eq_true k1;omega)
   have ht:truT l.segs to=[⟨to,[]⟩]:=by rw[truT,if_pos k1]
   rw[ht]
   intros;refine gr 27 30 ?_;refine sJ c189r9.eq_1 ?_
   refine⟨_,⟨_,rfl,.g (cellG_le hg1 h3)⟩,?_⟩
   refine sI ?_
   intro bk hbk
   refine sI ?_
   (intros;try refine go_st ?_)
   exact go_l ⟨_,_,_,_,Cells.one (E:=SE G1) (x:=⟨to,[]⟩) ⟨none,0,rfl,SB.nil,hto⟩ rfl,eE,eE,eE,rfl,.cons_cons _ (.cons _ (List.Sublist.refl _))⟩
  ·have k1:¬ truS l.segs to=[]:=fun h=>by rw[h]at k1;simp at k1
   have ht:truT l.segs to=truS l.segs to:=by rw[truT,if_neg k1]
   rw[ht]
   intros;refine gN ?_
   exact go_l ⟨_,_,_,_,hzc,eE,eE,eE,rfl,List.Sublist.refl _⟩
 rintro e h ⟨A2,c2,zc,Lh,hzc,e3,e0,e1,rfl,hsub⟩
 refine go_keep [0,1,3] ?_
 refine sJ3 @e0 @e1 @e3 ?_
 intros
 refine go_ghost (ghost_sub hsub) ?_
 refine go_gx (gx_slv_at [] _ (by decide) hzc) ?_
 rintro h' ⟨G2,rfl,hg2,hv2⟩
 have hg02:=hg1.trans hg2
 intros;refine gr 30 33 ?_;refine sJ c189r10.eq_1 ?_
 refine⟨_,⟨_,[.int .i64 l.limit,.int .i64 l.start,.slice A l.segs.length c],rfl,rfl,rfl,fun j u hu=>.g (cellG_le hg02 (h2 j u hu))⟩,?_⟩
 refine sI ?_
 refine(with_ok _ _ _ _ _ _ _ _ _ _ _).mono ?_;rintro _ _ ⟨rfl,rfl⟩;refine sI ?_
 intros;refine rV ?_;simp only[push_cast,Nat.reduceBEq]
 exact⟨_,rfl,A2,c2,rfl,hv2.le (.refl _) fun _ _ h=>SE.le hg2 h,hi,hj⟩
theorem Truncate_ok(l:Lg)(to:Int)(cs:List Value)(G:Nat→Option Obj)(hl:LE G l cs)(hb:smL l.segs)(hm:l.segs.length≤1000)(hto:I64 to):
  FnD Tryz.prog 167 #[.agg cs.toArray,.int .i64 to] G (LgR (truL l to)):=by
 have hl0:=hl
 obtain⟨A,c,rfl,hsl,hi,hj⟩:=hl
 refine F167.fnD (by simp) (go_of ?_)
 unfold c167
 unfold cellL at hl0 ⊢
 intros;refine gr 0 0 ?_;refine sJ c167r0.eq_1 ?_
 intro b2 hb2 b3 hb3
 (intros;try refine go_st ?_)
 refine go_gx (gx_blk_at [_] _) ?_
 rintro h' ⟨G1,rfl,hg1,f3⟩
 refine go_gx (gx_blk_at [_] _) ?_
 rintro h' ⟨G2,rfl,hg2,f2⟩
 have e3:=cellG_le hg2 (f3 0 _ rfl)
 rw[add_off]at e3
 have hg02:=hg1.trans hg2
 intros;refine gr 6 12 ?_;refine sJ c167r1.eq_1 ?_
 refine⟨_,⟨_,[.int .i64 l.limit,.int .i64 l.start,.slice A l.segs.length c],rfl,rfl,rfl,fun j u hu=>.g (f2 j u hu)⟩,?_⟩
 refine sI ?_
 refine⟨_,⟨_,rfl,.g e3⟩,?_⟩
 refine sI ?_
 refine(cut_ok l to 189 _ _ _ G2 (LE.le hg02 hl0) hb (by omega) (fun _ _=>Truncate1_ok l to A c b2 b3 G2 (SlSE.le hg02 hsl) hi hj hb hm hto f2 e3) _ _).mono ?_
 rintro r h' ⟨G3,rfl,hg3,cs,rfl,hle⟩
 have hle0:=hle
 obtain⟨A3,c3,rfl,hs3⟩:=hle
 unfold cellL
 refine sI ?_
 intros;refine rV ?_;simp only[push_cast,Nat.reduceBEq]
 exact⟨_,rfl,hle0⟩
end Go.Proofs.YtpmofpekcbghnaaGreat

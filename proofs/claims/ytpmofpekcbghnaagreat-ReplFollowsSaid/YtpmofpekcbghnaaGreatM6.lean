/- Parts of a proof, 8 texts in one file. No condition. -/
import Derived.Test.YtpmofpekcbghnaaGreatM1
import Derived.Test.YtpmofpekcbghnaaGreatM2
import Derived.Test.YtpmofpekcbghnaaGreatM3
import Derived.Test.YtpmofpekcbghnaaGreatM4
import Derived.Test.YtpmofpekcbghnaaGreatM5
set_option linter.unusedSimpArgs false
set_option linter.unusedVariables false
namespace Go.Proofs.YtpmofpekcbghnaaGreat
open Go Go.Kx
open List (getElem?_eq_getElem mem_of_getElem? length_append append_nil append_assoc length_cons take_length)
theorem F144:Fun Tryz.prog 144 26 v144 c144 o144:=Fun.mkA Tryz.func144 Tryz.ntmps144
theorem F183:Fun Tryz.prog 183 9 v183 c183 o183:=Fun.mkA Tryz.func183 Tryz.ntmps183
theorem F204:Fun Tryz.prog 204 12 v204 c204 o204:=Fun.mkA Tryz.func204 Tryz.ntmps204
theorem F160:Fun Tryz.prog 160 33 v160 c160 o160:=Fun.mkA Tryz.func160 Tryz.ntmps160
theorem F90:Fun Tryz.prog 90 17 v90 c90 o90:=Fun.mkA Tryz.func90 Tryz.ntmps90
theorem F145:Fun Tryz.prog 145 12 v145 c145 o145:=Fun.mkA Tryz.func145 Tryz.ntmps145
theorem pW(n:Nat)(hn:n < 9223372036854775808)(p:Nat→Bool)(g:Nat)(cap:Array Value)(G:J5)(hp:∀ i:Nat,i < n→FnS Tryz.prog g (#[.int .i64 i]++cap) G (.bool (p i))):
  FnE Tryz.prog 144 #[.int .i64 n,.func (.func g) #[] cap] G (fun r=>∃ j:Nat,j≤n∧r=.int .i64 j∧(j < n→p j=true)∧(0 < j→p (j - 1)=false)):=by
 refine F144.fnE (by simp) (dI ?_);unfold c144;intros;refine gR 0 0 c144r0.eq_1 ?_;intros;refine gR 8 9 c144r1.eq_1 ?_;intros;refine dy ?_;refine dV (fun e h=>∃ i j:Nat,(i≤j∧j≤n)∧((j < n→p j=true)∧(0 < i→p (i - 1)=false))∧e 5=.int .i64 i∧e 6=.int .i64 j∧e 1=.func (.func g) #[] cap∧h=⟨G,[],[]⟩) (fun e h=>iv (e 6) - iv (e 5)) ?_ ?_
 ·exact⟨0,n,⟨by omega,by omega⟩,⟨fun h=>absurd h (by omega),fun h=>absurd h (by omega)⟩,eE,eE,eE,rfl⟩
 ·rintro e h ⟨i,j,⟨hij,hjn⟩,⟨h1,h2⟩,e5,e6,e1,rfl⟩;refine dC [1,5,6] ?_;refine sJ3 @e5 @e6 @e1 ?_;intros;refine gR 9 11 c144r2.eq_1 ?_;intros;refine gC ?_;refine gb (fun ht=>?_) (fun ht=>?_)
  ·have hlt:i < j:=by simpa using ht
   obtain⟨m,hm1,hm2,hh,hv⟩:∃ m:Nat,i≤m∧m < j∧ff .shr (.int .u64 (IntKind.u64.wrap (IntKind.i64.wrap ((i:Int)+j)))) (.int .u64 1)=some (.int .u64 (m:Int))∧IntKind.i64.wrap (m:Int)=m :=
    ⟨(i+j) / 2,by omega,by omega,Gy i j (by omega),cvh i j (by omega)⟩
   intros;refine gr 12 18 ?_;refine sJ3 c144r3.eq_1 @hh @hv ?_;intros;refine gR 18 21 c144r4.eq_1 ?_;refine .inl ⟨g,cap,rfl,(hp m (by omega) [] []).mono ?_⟩;rintro v h' ⟨rfl,rfl⟩;refine sI ?_;intros;refine gC ?_;refine gb (fun h3=>?_) (fun h3=>?_)
   ·have hw:IntKind.i64.wrap ((m:Int)+1)=(m:Int)+1:=by rw[dX] <;> omega
    intros;refine gR2 22 24 c144r5.eq_1 @hw ?_;intros;refine dy ?_;refine ej ⟨⟨m+1,j,⟨by omega,by omega⟩,⟨h1,fun _=>by simpa using h3⟩,(eJ @hw),eE,eE,rfl⟩,?_⟩;refine sJ @hw ?_;omega
   ·intros;refine gR 24 25 c144r6.eq_1 ?_;intros;refine dy ?_;refine ej ⟨⟨i,m,⟨by omega,by omega⟩,⟨fun _=>by simpa using h3,h2⟩,eE,eE,eE,rfl⟩,?_⟩;refine sI ?_;omega
  ·have hij':i=j:=by simp at ht;omega
   subst hij';refine dS ?_;refine sI ?_;intros;refine gR 25 26 c144r7.eq_1 ?_;intros;refine rW ?_;exact⟨i,hjn,rfl,h1,h2⟩
def qQ(l:List Ep)(n:Int)(j:Nat):Prop:=j≤l.length∧(∀ x,l[j]?=some x→n < x.1)∧∀ x,0 < j→l[j - 1]?=some x→x.1≤n
theorem xl(l:List Ep)(A:Ka)(c:Nat)(n:Int)(G:J5)(b1 b2:Nat)(hA:SlA G EpE 2 A l)(h1:eZ G ⟨b1,0,none⟩=some (.slice A l.length c))(h2:eZ G ⟨b2,0,none⟩=some (.int .i64 n))(i:Nat)(x:Ep)(hx:l[i]?=some x):
  FnS Tryz.prog 204 #[.int .i64 i,.pointer (some ⟨b1,0,none⟩),.pointer (some ⟨b2,0,none⟩)] G (.bool (decide (n < x.1))):=by
 refine F204.fnS (by simp) (dI ?_);unfold c204;intros;refine gR 0 0 c204r0.eq_1 ?_;intros;refine dy ?_;refine uS 5 12 (by decide) ?_;refine sJ c204r1.eq_1 ?_;refine⟨_,⟨_,rfl,.g h1⟩,?_⟩;refine sI ?_;refine hA.y_lf hx rfl rfl (fun cs h=>by rw[h.1];rfl) fun a ha=>?_
 refine sI ?_;refine⟨_,⟨_,rfl,.g h2⟩,?_⟩;refine sI ?_;intros;refine rV ?_;simp only[push_cast,Nat.reduceBEq]
theorem zC(l:List Ep)(n:Int)(v:Value)(G:J5)(hl:SEp G v l)(hb:l.length≤1000000):
  FnE Tryz.prog 183 #[v,.int .i64 n] G (fun r=>∃ j:Nat,r=.int .i64 j∧qQ l n j):=by
 refine F183.fnE (by simp) (dI ?_);obtain⟨A,c,rfl,hc,hm,hA⟩:=hl;unfold c183;intros;refine gR 0 0 c183r0.eq_1 ?_;intro b1 hb1 b2 hb2;intros;refine dy ?_;refine ei js ?_;rintro h' ⟨G1,rfl,hg1,hc1⟩;refine ei js ?_;rintro h' ⟨G2,rfl,hg2,hc2⟩;have e1:=hc2 0 _ rfl;have e2:=dN hg2 (hc1 0 _ rfl);rw[eA]at e1 e2;have hA2:SlA G2 EpE 2 A l:=(hA.le hg1 Kp).le hg2 Kp;intros;refine gR 5 9 c183r1.eq_1 ?_
 refine⟨_,⟨_,rfl,.g e1⟩,?_⟩;refine sI ?_;refine(pW l.length (by omega) (fun i=>decide (∃ x,l[i]?=some x∧n < x.1)) 204 #[.pointer (some ⟨b1,0,none⟩),.pointer (some ⟨b2,0,none⟩)] G2 (fun i hi=>?_) [] []).mono ?_
 ·obtain⟨x,hx⟩:∃ x,l[i]?=some x:=⟨l[i],getElem?_eq_getElem (by omega)⟩;have:=xl l A c n G2 b1 b2 hA2 e1 e2 i x hx;have he:decide (∃ x,l[i]?=some x∧n < x.1)=decide (n < x.1):=by simp[hx]
  rw[he];exact this
 ·rintro r h' ⟨⟨j,hj,rfl,h1,h2⟩,rfl⟩;refine sI ?_;intros;refine rW ?_;refine⟨j,rfl,hj,fun x hx=>?_,fun x h0 hx=>?_⟩
  ·have:=h1 (List.getElem?_eq_some_iff.1 hx).1;simpa [hx]using this
  ·have:=h2 h0;simpa [hx]using this
def DF(l:List Ep)(n en w o:Int):Prop :=
 (gK l≠0∧w=-1∧o=0)∨(gK l=0∧∃ j,qQ l n j∧((j=0∧w=-1∧o=0)∨∃ x,0 < j∧l[j - 1]?=some x∧w=x.1∧o=(l[j]?.map (·.2)).getD en))
theorem qz(l:List Ep)(n en:Int)(v:Value)(G:J5)(hl:SEp G v l)(hb:l.length≤1000000):
  FnE Tryz.prog 160 #[v,.int .i64 n,.int .i64 en] G (fun r=>∃ w o,r=.tuple #[.int .i64 w,.int .i64 o]∧DF l n en w o):=by
 refine F160.fnE (by simp) (dI ?_);have hl0:=hl;obtain⟨A,c,rfl,hc,hm,hA⟩:=hl;unfold c160;intros;refine gR 0 0 c160r0.eq_1 ?_;intros;refine gR 0 0 c160r1.eq_1 ?_;intros;refine gR 9 11 c160r2.eq_1 ?_;refine(ju _ _ _ hl0 _ _).mono ?_;rintro v h' ⟨rfl,rfl⟩;refine sI ?_;intros;refine gC ?_
 have hend:∀ (e:Env) (j:Nat),e 0=.slice A l.length c→e 2=.int .i64 en→e 8=.int .i64 j→(j=0∧gK l≠0)∨(gK l=0∧qQ l n j) →
   go none Tryz.prog 33 v160.1 v160.2 (gl o160 fun r x=>∃ w o,r=.tuple #[.int .i64 w,.int .i64 o]∧DF l n en w o)
    [Td.s (SC.seq (.seq (.reg false c160r4) (.cond (.t 16) (.seq (.reg false c160r5) .ret) .skip)) (.seq (.seq (.reg false c160r6) (.cond (.t 20) (.reg false c160r7) .skip)) (.seq (.reg false c160r8) .ret)))] e ⟨G,[],[]⟩:=fun e j e0 e2 e8 hj=>by
  refine dC [0,2,8] ?_;refine sJ3 @e0 @e2 @e8 ?_;intros;refine gR 15 16 c160r4.eq_1 ?_;intros;refine gC ?_;refine gb (fun h1=>?_) (fun h1=>?_)
  ·have hj0:j=0:=by simpa using h1
   intros;refine gR 0 0 c160r5.eq_1 ?_;intros;refine rW ?_;refine⟨_,_,rfl,?_⟩;rcases hj with⟨_,h2⟩ | ⟨h2,h3⟩
   ·exact .inl ⟨h2,rfl,rfl⟩
   ·exact .inr ⟨h2,j,h3,.inl ⟨hj0,rfl,rfl⟩⟩
  ·have hj0:0 < j:=by simp at h1;omega
   obtain⟨h2,h3⟩:gK l=0∧qQ l n j:=by rcases hj with⟨h2,_⟩ | h2;omega;exact h2
   obtain⟨x,hx⟩:∃ x,l[j - 1]?=some x:=⟨l[j - 1]'(by have:=h3.1;omega),getElem?_eq_getElem _⟩;have hlast:∀ (e:Env) (b:Int),e 0=.slice A l.length c→e 2=.int .i64 b→e 8=.int .i64 j→b=(l[j]?.map (·.2)).getD en →
    go none Tryz.prog 33 v160.1 v160.2 (gl o160 fun r x=>∃ w o,r=.tuple #[.int .i64 w,.int .i64 o]∧DF l n en w o) [Td.s (SC.seq (.reg false c160r8) .ret)] e ⟨G,[],[]⟩:=fun e b e0 e2 e8 hb'=>by
    intros;refine gr 26 33 ?_;(refine sJ5 c160r8.eq_1 @e0 @e2 @e8 (F3 j hj0 (by have:=h3.1;omega)) ?_);refine hA.x_lf hx rfl rfl (fun cs h=>by rw[h.1];rfl) fun a ha=>?_
    refine sJ @e2 ?_;intros;refine rW ?_;refine⟨_,_,rfl,.inr ⟨h2,j,h3,.inr ⟨x,hj0,hx,rfl,hb'⟩⟩⟩
   intros;refine gR 17 20 c160r6.eq_1 ?_;intros;refine gC ?_;refine gb (fun h4=>?_) (fun h4=>?_)
   ·obtain⟨y,hy⟩:∃ y,l[j]?=some y:=⟨l[j]'(by simpa using h4),getElem?_eq_getElem _⟩;intros;refine gR 21 26 c160r7.eq_1 ?_;refine hA.x_lf hy rfl rfl (fun cs h=>by rw[h.1];rfl) fun a ha=>?_
    refine sI ?_;intro b;refine hlast _ y.2 (eE) (eE) (eE) (by rw[hy];rfl)
   ·refine ek ?_;refine hlast _ en (eE) (eE) (eE) ?_;rw[List.getElem?_eq_none (by simpa using h4)];rfl
 refine gb (fun h1=>?_) (fun h1=>?_)
 ·have h1:gK l=0:=by simpa using h1
  intros;refine gR 12 15 c160r3.eq_1 ?_;refine(zC l n _ G hl0 hb [] []).mono ?_;rintro r h' ⟨⟨j,rfl,hj⟩,rfl⟩;refine sI ?_;intro b;refine hend _ j ?_ ?_ ?_ (.inr ⟨h1,hj⟩) <;> exact eE
 ·refine ek ?_;refine hend _ 0 ?_ ?_ ?_ (.inl ⟨rfl,by simpa using h1⟩) <;> exact eE
theorem iS{l:List Ep}(h:gK l=0){i k:Nat}{x y:Ep}(hik:i < k)(hx:l[i]?=some x)(hy:l[k]?=some y):x.1 < y.1∧x.2 < y.2:=by
 have hc:Chk l l.length:=by
  unfold gK at h;split at h
  ·assumption
  ·omega
 induction k generalizing y with
 | zero=>omega
 | succ k ih =>
  have hlt:=(List.getElem?_eq_some_iff.1 hy).1;obtain⟨z,hz⟩:∃ z,l[k]?=some z:=⟨l[k],getElem?_eq_getElem (by omega)⟩;have h1:=(hc (k+1) y hlt hy).2 z (by omega) (by simpa using hz);by_cases hk:i=k
  ·subst hk;rw[hx]at hz;cases hz;exact h1
  ·have:=ih (by omega) hz;omega
theorem mZ{l:List Ep}(h:gK l=0){i:Nat}{x:Ep}(hx:l[i]?=some x):okE x=true:=by
 have hc:Chk l l.length:=by
  unfold gK at h;split at h
  ·assumption
  ·omega
 exact(hc i x (List.getElem?_eq_some_iff.1 hx).1 hx).1
theorem sg{l:List Ep}(h:gK l=0){n:Int}{j j':Nat}(h1:qQ l n j)(h2:qQ l n j'):j=j':=by
 have key:∀ {a b:Nat},qQ l n a→qQ l n b→¬ a < b:=fun {a b} ha hb hab=>by
  have hbl:=hb.1;obtain⟨x,hx⟩:∃ x,l[a]?=some x:=⟨l[a],getElem?_eq_getElem (by omega)⟩;obtain⟨y,hy⟩:∃ y,l[b - 1]?=some y:=⟨l[b - 1],getElem?_eq_getElem (by omega)⟩;have h3:=ha.2.1 x hx;have h4:=hb.2.2 y (by omega) hy;by_cases hab':a=b - 1
  ·subst hab';rw[hx]at hy;cases hy;omega
  ·have:=(iS h (show a < b - 1 by omega) hx hy).1;omega
 have:=key h1 h2;have:=key h2 h1;omega
theorem rP{l:List Ep}{n en w o w' o':Int}(h1:DF l n en w o)(h2:DF l n en w' o'):w=w'∧o=o':=by
 rcases h1 with⟨a,rfl,rfl⟩ | ⟨a,j,hj,hr⟩ <;> rcases h2 with⟨b,rfl,rfl⟩ | ⟨b,j',hj',hr'⟩
 ·exact⟨rfl,rfl⟩
 ·exact absurd b a
 ·exact absurd a b
 ·have:=sg a hj hj';subst this;rcases hr with⟨r0,rfl,rfl⟩ | ⟨x,r0,r1,rfl,rfl⟩ <;> rcases hr' with⟨r0',rfl,rfl⟩ | ⟨x',r0',r1',rfl,rfl⟩
  ·exact⟨rfl,rfl⟩
  ·omega
  ·omega
  ·rw[r1]at r1';cases r1';exact⟨rfl,rfl⟩
theorem u7{l:List Ep}{en w o:Int}{k:Nat}{x:Ep}(h:gK l=0)(hx:l[k]?=some x)(hr:DF l x.1 en w o):w=x.1∧o=(l[k+1]?.map (·.2)).getD en:=by
 have hk:=(List.getElem?_eq_some_iff.1 hx).1;refine rP hr (.inr ⟨h,k+1,⟨by omega,fun y hy=>(iS h (Nat.lt_succ_self k) hx hy).1,fun y _ hy=>?_⟩,.inr ⟨x,by omega,by simpa using hx,rfl,rfl⟩⟩);rw[Nat.add_sub_cancel,hx]at hy;cases hy;omega
noncomputable def kV(l:List Ep)(off:Int):List Ep:=l.filter fun x=>decide (gK l=0) && decide (x.2 < off)
def IX(zs:List Ep)(L':J8)(r:Value):Prop:=∃ ys,Cells EpE 2 zs ys∧L'=[.row r 151 2 zs.length ys]
theorem zu(l:List Ep)(A:Ka)(c:Nat)(n:Int)(G:J5)(b1 b2:Nat)(hA:SlA G EpE 2 A l)(h1:eZ G ⟨b1,0,none⟩=some (.slice A l.length c))(h2:eZ G ⟨b2,0,none⟩=some (.int .i64 n))(i:Nat)(x:Ep)(hx:l[i]?=some x):
  FnS Tryz.prog 145 #[.int .i64 i,.pointer (some ⟨b1,0,none⟩),.pointer (some ⟨b2,0,none⟩)] G (.bool (decide (n≤x.2))):=by
 refine F145.fnS (by simp) (dI ?_);unfold c145;intros;refine gR 0 0 c145r0.eq_1 ?_;intros;refine dy ?_;refine uS 5 12 (by decide) ?_;refine sJ c145r1.eq_1 ?_;refine⟨_,⟨_,rfl,.g h1⟩,?_⟩;refine sI ?_;refine hA.y_lf hx rfl rfl (fun cs h=>by rw[h.1];rfl) fun a ha=>?_
 refine sI ?_;refine⟨_,⟨_,rfl,.g h2⟩,?_⟩;refine sI ?_;intros;refine rV ?_;simp only[push_cast,Nat.reduceBEq]
theorem wi{l:List Ep}(h:gK l=0){off:Int}{j:Nat}(hj:j≤l.length)(h1:∀ x,l[j]?=some x→off≤x.2)(h2:∀ x,0 < j→l[j - 1]?=some x→x.2 < off):kV l off=l.take j:=by
 have e:l=l.take j++l.drop j:=(List.take_append_drop j l).symm;have h3:(l.take j).filter (fun x=>decide (gK l=0) && decide (x.2 < off))=l.take j:=by
  rw[List.filter_eq_self];intro x hx;obtain⟨i,hi⟩:=List.getElem?_of_mem hx;rw[List.getElem?_take]at hi;split at hi
  ·rename_i hij;obtain⟨y,hy⟩:∃ y,l[j - 1]?=some y:=⟨l[j - 1],getElem?_eq_getElem (by omega)⟩;have h4:=h2 y (by omega) hy;have:x.2 < off:=by
    by_cases hij':i=j - 1
    ·subst hij';rw[hi]at hy;cases hy;exact h4
    ·have:=(iS h (show i < j - 1 by omega) hi hy).2;omega
   simp[h,this]
  ·cases hi
 have h4:(l.drop j).filter (fun x=>decide (gK l=0) && decide (x.2 < off))=[]:=by
  rw[List.filter_eq_nil_iff];intro x hx;obtain⟨i,hi⟩:=List.getElem?_of_mem hx;rw[List.getElem?_drop]at hi;obtain⟨y,hy⟩:∃ y,l[j]?=some y:=⟨l[j]'(by have:=(List.getElem?_eq_some_iff.1 hi).1;omega),getElem?_eq_getElem _⟩;have h4:=h1 y hy;have:off≤x.2:=by
   by_cases hij':i=0
   ·subst hij';rw[Nat.add_zero]at hi;rw[hi]at hy;cases hy;exact h4
   ·have:=(iS h (show j < j+i by omega) hy hi).2;omega
  simp;intro _;omega
 unfold kV;have h5:=List.filter_append (p:=fun x=>decide (gK l=0) && decide (x.2 < off)) (l.take j) (l.drop j);rw[← e,h3,h4,append_nil]at h5;exact h5
theorem CT(l:List Ep)(off:Int)(v:Value)(G:J5)(hl:SEp G v l)(hb:l.length≤1000000):
  FnO Tryz.prog 90 #[v,.int .i64 off] G [] (fun _ L' r=>IX (kV l off) L' r):=by
 refine F90.fnO (by simp) dw (dI ?_);obtain⟨A,c,rfl,hc,hm,hA⟩:=hl;unfold c90;intros;refine gR 0 0 c90r0.eq_1 ?_;intro b1 hb1 b2 hb2;intros;refine dy ?_;refine ei js ?_;rintro h' ⟨G1,rfl,hg1,hc1⟩;refine ei js ?_;rintro h' ⟨G2,rfl,hg2,hc2⟩;have e1:=hc2 0 _ rfl;have e2:=dN hg2 (hc1 0 _ rfl);rw[eA]at e1 e2;have hA2:SlA G2 EpE 2 A l:=(hA.le hg1 Kp).le hg2 Kp
 have hl2:SEp G2 (.slice A l.length c) l:=⟨A,c,rfl,hc,hm,hA2⟩;intros;refine gR 6 8 c90r1.eq_1 ?_;refine⟨_,⟨_,rfl,.g e1⟩,?_⟩;refine sI ?_;refine(ju _ _ _ hl2 _ _).mono ?_;rintro v h' ⟨rfl,rfl⟩;refine sI ?_;intros;refine gC ?_;refine gb (fun h1=>?_) (fun h1=>?_)
 ·intros;refine gR 0 0 c90r2.eq_1 ?_;intros;refine dy ?_;refine dA (dW none 151 2) ?_;refine dG (dL _ rfl Kl (dz dw) ?_);have:kV l off=[]:=by
   unfold kV;rw[List.filter_eq_nil_iff];intro x _;simp at h1;simp[h1]
  exact⟨[],by rw[this];exact .nil,by rw[this];rfl⟩
 have h1:gK l=0:=by simpa using h1
 intros;refine gR 9 13 c90r3.eq_1 ?_;refine⟨_,⟨_,rfl,.g e1⟩,?_⟩;refine sI ?_;refine(pW l.length (by omega) (fun i=>decide (∃ x,l[i]?=some x∧off≤x.2)) 145 #[.pointer (some ⟨b1,0,none⟩),.pointer (some ⟨b2,0,none⟩)] G2 (fun i hi=>?_) [] []).mono ?_
 ·obtain⟨x,hx⟩:∃ x,l[i]?=some x:=⟨l[i],getElem?_eq_getElem (by omega)⟩;have:=zu l A c off G2 b1 b2 hA2 e1 e2 i x hx;have he:decide (∃ x,l[i]?=some x∧off≤x.2)=decide (off≤x.2):=by simp[hx]
  rw[he];exact this
 rintro r h' ⟨⟨j,hj,rfl,h2,h3⟩,rfl⟩;have hcut:kV l off=l.take j:=wi h1 hj (fun x hx=>by
  have:=h2 (List.getElem?_eq_some_iff.1 hx).1
  simpa [hx]using this) (fun x h0 hx=>by
  have:=h3 h0
  simpa [hx]using this)
 refine sI ?_;intros;refine gR 13 17 c90r4.eq_1 ?_;refine⟨_,⟨_,rfl,.g e1⟩,?_⟩;refine sI ?_;refine⟨by omega,?_⟩;have hlt:(l.take j).length=j:=by simp;omega
 have htk:SEp G2 (.slice A j c) (l.take j):=⟨A,c,by rw[hlt],by omega,hm,by
  have:=hA2.cut (l:=0) (n:=j) (B:=A) hj (fun _=>by cases A <;> simp[Addr.add])
  simpa using this⟩
 refine(pP _ _ _ htk (by omega) [] []).mono ?_;rintro r h' ⟨G',L',rfl,hg,ys,hys,rfl⟩;refine sI ?_;intros;refine dy ?_;refine dG (dL _ rfl Kl (dz dw) ?_);exact⟨ys,by rw[hcut];exact hys,by rw[hcut];rfl⟩
theorem F182:Fun Tryz.prog 182 19 v182 c182 o182:=Fun.mkA Tryz.func182 Tryz.ntmps182
theorem F159:Fun Tryz.prog 159 4 v159 c159 o159:=Fun.mkA Tryz.func159 Tryz.ntmps159
theorem F126:Fun Tryz.prog 126 50 v126 c126 o126:=Fun.mkA Tryz.func126 Tryz.ntmps126
def Ji(l:List Ep)(_:J5)(i:Nat)(args:Array Value):Prop:=∃ x,l[i]?=some x∧I64 x.1∧I64 x.2∧args=#[.int .i64 i,.agg #[.int .i64 x.1,.int .i64 x.2]]
theorem AF{n t:Nat}(h:t < n):(List.range n).reverse[t]?=some (n - 1 - t):=by
 rw[List.getElem?_reverse (by simpa using h),List.length_range,List.getElem?_range (by omega)]
theorem Ey{n t i:Nat}(h:(List.range n).reverse[t]?=some i):t < n∧i=n - 1 - t:=by
 have h1:t < n:=by have:=(List.getElem?_eq_some_iff.1 h).1;simpa using this
 rw[AF h1]at h;cases h;exact⟨h1,rfl⟩
theorem vA(l:List Ep)(A:Ka)(c b:Nat)(G0:J5)(hc:l.length≤c)(hm:c≤maxLen)(hA:SlA G0 EpE 2 A l)(h1:eZ G0 ⟨b,0,none⟩=some (.slice A l.length c)):
  kC Tryz.prog 182 #[.pointer (some ⟨b,0,none⟩)] (List.range l.length).reverse (Ji l) G0:=by
 intro yl I Ix G L hG hn hI hIx hmo h0 hy L2 D;have hargs:(#[.func (.yield yl) #[] #[]]++#[.pointer (some ⟨b,0,none⟩)]:Array Value)=#[.func (.yield yl) #[] #[],.pointer (some ⟨b,0,none⟩)]:=rfl;rw[hargs];refine(F182.calls (R:=fun _ h=>Gle G h.G∧(I l.length h.G h.L∨∃ i,i < l.length∧Ix i h.G h.L)) (by simp) hn (dI ?_) L2 D).mono ?_
 ·have e1:=dN hG h1;unfold c182;intros;refine gR 4 7 c182r0.eq_1 ?_;refine⟨_,⟨_,rfl,.g e1⟩,?_⟩;have hw0:IntKind.i64.wrap ((l.length:Int) - 1)=(l.length:Int) - 1:=by unfold maxLen at hm;rw[dX] <;> omega
  refine sJ @hw0 ?_;intros;refine dy ?_;refine dV (fun e h=>∃ (t:Nat) (G':J5) (L':J8),(t≤l.length∧Gle G G'∧dR L'∧I t G' L')∧e 3=.int .i64 ((l.length:Int) - 1 - t)∧e 0=.func (.yield yl) #[] #[]∧e 1=.pointer (some ⟨b,0,none⟩)∧h=⟨G',L',[]⟩) (fun e h=>iv1 (e 3)) ?_ ?_
  ·refine⟨0,G,L,⟨Nat.zero_le _,.refl G,hn,h0⟩,?_,rfl,rfl,rfl⟩;refine sI ?_;simp
  ·rintro e h ⟨t,G',L',⟨ht,hgg,hn',hI'⟩,e3,e0,e1',rfl⟩;refine dC [0,1,3] ?_;refine sJ3 @e0 @e1' @e3 ?_;intros;refine gR 7 8 c182r1.eq_1 ?_;intros;refine gC ?_;refine gb (fun h2=>?_) (fun h2=>?_)
   ·have htl:t < l.length:=by simp at h2;omega
    obtain⟨x,hx⟩:∃ x,l[l.length - 1 - t]?=some x:=⟨l[l.length - 1 - t],getElem?_eq_getElem (by omega)⟩;have e1g:=dN hgg e1;have hAg:=(hA.le hG Kp).le hgg Kp;have hcast:(l.length:Int) - 1 - t=((l.length - 1 - t:Nat):Int):=by omega
    intros;refine gR 11 18 c182r2.eq_1 ?_;refine⟨_,⟨_,rfl,.g e1g⟩,?_⟩;refine sI ?_;refine hAg.x_ld hx hcast rfl ?_;rintro a1 ha1 cs ⟨rfl,i1,i2⟩;refine sI ?_;refine .inr ⟨yl,rfl,?_⟩;refine(pH hy (AF htl) hgg ⟨x,hx,i1,i2,by rw[hcast]⟩ hI').mono ?_;rintro v h' ⟨G2,L3,rfl,hg2,hn2,hr⟩;rcases hr with⟨rfl,hr⟩ | ⟨rfl,hr⟩
    ·refine sI ?_;intros;refine gC ?_;have hw:IntKind.i64.wrap ((l.length:Int) - 1 - t - 1)=(l.length:Int) - 1 - ((t+1:Nat):Int):=by unfold maxLen at hm;rw[dX] <;> omega
     intros;refine gR2 9 11 c182r3.eq_1 @hw ?_;intros;refine dy ?_;refine ej ⟨⟨t+1,G2,L3,⟨by omega,hgg.trans hg2,hn2,hr⟩,eE,eE,eE,rfl⟩,?_⟩;refine sJ @FZ ?_;omega
    ·refine sI ?_;intros;refine gC ?_;intros;refine dy ?_;refine dG (dL L3 rfl Kl hn2 ?_);exact⟨hgg.trans hg2,.inr ⟨t,htl,hr⟩⟩
   ·have htl:t=l.length:=by simp at h2;omega
    subst htl;refine dS ?_;refine sI ?_;refine fU ?_;exact⟨[],rfl,⟨G',L',[]⟩,dE Kl,hn',hgg,.inl hI'⟩
 ·rintro v h' ⟨G',L',rfl,hn',hgg,hr⟩;exact⟨G',L',rfl,hgg,hn',by simpa using hr⟩
theorem FO(l:List Ep)(A:Ka)(c:Nat)(G:J5)(hc:l.length≤c)(hm:c≤maxLen)(hA:SlA G EpE 2 A l):
  FnD Tryz.prog 159 #[.slice A l.length c] G (fun G' r=>∃ b,r=.func (.func 182) #[] #[.pointer (some ⟨b,0,none⟩)]∧kC Tryz.prog 182 #[.pointer (some ⟨b,0,none⟩)] (List.range l.length).reverse (Ji l) G'):=by
 refine F159.fnD (by simp) (dI ?_);unfold c159;intros;refine gR 0 0 c159r0.eq_1 ?_;intro b1 hb1;intros;refine dy ?_;refine ei js ?_;rintro h' ⟨G1,rfl,hg1,hc1⟩;have e1:=hc1 0 _ rfl;rw[eA]at e1;intros;refine gR 3 4 c159r1.eq_1 ?_;intros;refine rW ?_;exact⟨b1,rfl,vA l A c b1 G1 hc hm (hA.le hg1 Kp) e1⟩
def wv(l:List Ep)(i:Nat)(en:Int):Int:=(l[i+1]?.map (·.2)).getD en
def l7(a b:List Ep)(ae be m:Int):Prop :=
 ((gK a≠0∨gK b≠0)∧m=0)∨(gK a=0∧gK b=0 ∧
   (((∀ (i:Nat) (x:Ep) (k:Nat) (y:Ep),a[i]?=some x→b[k]?=some y→x.1≠y.1)∧m=0) ∨
    ∃ (i:Nat) (x:Ep) (k:Nat) (y:Ep),a[i]?=some x∧b[k]?=some y∧x.1=y.1∧(∀ (i':Nat) (x':Ep) (k':Nat) (y':Ep),i < i'→a[i']?=some x'→b[k']?=some y'→x'.1≠y'.1)∧m=min (wv a i ae) (wv b k be)))
theorem rq{b:List Ep}{n be w o:Int}(hb:gK b=0)(hn:0≤n)(hr:DF b n be w o):
  (w=n∧∃ (k:Nat) (y:Ep),b[k]?=some y∧n=y.1∧o=wv b k be)∨(w≠n∧∀ (k:Nat) (y:Ep),b[k]?=some y→n≠y.1):=by
 by_cases h:∃ (k:Nat) (y:Ep),b[k]?=some y∧n=y.1
 ·obtain⟨k,y,hy,rfl⟩:=h;obtain⟨h1,h2⟩:=u7 hb hy hr;exact .inl ⟨h1,k,y,hy,rfl,h2⟩
 ·refine .inr ⟨fun hw=>?_,fun k y hy he=>h ⟨k,y,hy,he⟩⟩;rcases hr with⟨h1,_⟩ | ⟨_,j,_,⟨_,h2,_⟩ | ⟨x,h0,hx,h2,_⟩⟩
  ·exact h1 hb
  ·omega
  ·exact h ⟨_,x,hx,by omega⟩
theorem yJ(a b:List Ep)(ae be:Int)(va vb:Value)(G:J5)(ha:SEp G va a)(hb:SEp G vb b)(hla:a.length≤1000000)(hlb:b.length≤1000000):
  FnE Tryz.prog 126 #[va,.int .i64 ae,vb,.int .i64 be] G (fun r=>∃ m,r=.int .i64 m∧l7 a b ae be m):=by
 refine F126.fnE (by simp) (dI ?_);obtain⟨A,c,rfl,hc,hm,hA⟩:=ha;obtain⟨B,d,rfl,hd,hmd,hB⟩:=hb;unfold c126;intros;refine gR 0 0 c126r0.eq_1 ?_;intro b4 hb4 b5 hb5 b6 hb6 b7 hb7 b8 hb8;intros;refine dy ?_;refine ei (eg [_] _) ?_;rintro h' ⟨G1,rfl,hg1,f7⟩;refine ei (eg [_] _) ?_;rintro h' ⟨G2,rfl,hg2,f6⟩;refine ei (eg [_] _) ?_;rintro h' ⟨G3,rfl,hg3,f5⟩;refine ei (eg [_] _) ?_
 rintro h' ⟨G4,rfl,hg4,f4⟩;have e4:=f4 0 _ rfl;have e5:=dN hg4 (f5 0 _ rfl);have e6:=dN hg4 (dN hg3 (f6 0 _ rfl));have e7:=dN hg4 (dN hg3 (dN hg2 (f7 0 _ rfl)));rw[eA]at e4 e5 e6 e7;have hgg:Gle G G4:=((hg1.trans hg2).trans hg3).trans hg4;have hA4:=hA.le hgg Kp;have hB4:=hB.le hgg Kp;have ha4:SEp G4 (.slice A a.length c) a:=⟨A,c,rfl,hc,hm,hA4⟩
 have hb4':SEp G4 (.slice B b.length d) b:=⟨B,d,rfl,hd,hmd,hB4⟩;have hbad:∀ (fr:Kc) (e:Env),(gK a≠0∨gK b≠0)→e 8=.pointer (some ⟨b8,0,none⟩)→go none Tryz.prog 50 v126.1 v126.2 (gl o126 fun v h=>∃ m,v=.int .i64 m∧l7 a b ae be m) (Td.s ((SC.reg false c126r2).seq .ret) :: fr) e ⟨G4,[.blk b8 [.int .i64 0]],[]⟩:=fun fr e hbd e8=>by
  intros;refine gR2 0 0 c126r2.eq_1 @e8 ?_;refine dM [] [] rfl (by simp) ⟨rfl,rfl⟩ ?_;refine sI ?_;intros;refine dy ?_;refine dG (jS (AP (b:=b8) (v:=.int .i64 0) ((eJ @e8)) (AS _ _ _)) ?_);exact⟨0,rfl,.inl ⟨hbd,rfl⟩⟩
 intros;refine gR 15 22 c126r1.eq_1 ?_;refine⟨_,⟨_,rfl,.g e4⟩,?_⟩;refine sI ?_;refine(ju _ _ _ ha4 _ _).mono ?_;rintro v h' ⟨rfl,rfl⟩;refine sI ?_;refine gd (fun h1=>?_) (fun h1=>?_)
 ·refine sI ?_;intros;refine gC ?_;exact hbad _ _ (.inl (by simpa using h1)) (eE)
 refine sI ?_;refine⟨_,⟨_,rfl,.g e6⟩,?_⟩;refine sI ?_;refine(ju _ _ _ hb4' _ _).mono ?_;rintro v h' ⟨rfl,rfl⟩;refine sI ?_;intros;refine gC ?_;refine gb (fun h2=>?_) (fun h2=>?_)
 ·exact hbad _ _ (.inr (by simpa using h2)) (eE)
 have hca:gK a=0:=by simpa using h1
 have hcb:gK b=0:=by simpa using h2
 intros;refine gR 23 24 c126r3.eq_1 ?_;refine⟨_,⟨_,rfl,.g e4⟩,?_⟩;refine sI ?_;refine(FO a A c G4 hc hm hA4 _ []).mono ?_;rintro r h' ⟨G5,rfl,hg5,b9,rfl,hit⟩;refine sI ?_;intros;refine dy ?_;have fin:∀ (m:Int) (G6:J5) (D:Kh) (e:Env),l7 a b ae be m→e 8=.pointer (some ⟨b8,0,none⟩)→gl o126 (fun v (h:H)=>∃ m,v=.int .i64 m∧l7 a b ae be m) .ret e ⟨G6,[.blk b8 [.int .i64 m]],D⟩:=fun m G6 D e hm e8 =>
  jS (AP (b:=b8) (v:=.int .i64 m) e8 (AS _ _ _)) ⟨m,rfl,hm⟩
 refine rA (α:=Nat) (fun t G' L'=>L'=[.blk b8 [.int .i64 0]]∧∀ (t':Nat) (x:Ep) (k:Nat) (y:Ep),t' < t→a[a.length - 1 - t']?=some x→b[k]?=some y→x.1≠y.1)
  (fun ex t G' L'=>ex=.ret∧∃ m,L'=[.blk b8 [.int .i64 m]]∧l7 a b ae be m) (eE) F182.enters (dF dw) (fun _ _ _ _ _ h=>h) hit (fun G x args h=>by obtain⟨y,_,_,_,rfl⟩:=h;rfl) ⟨rfl,fun t' x k y h=>absurd h (by omega)⟩ ?_ ?_ ?_
 ·rintro yl t i args G' L' hti hgl ⟨x,hx,i1,i2,rfl⟩ ⟨rfl,hno⟩ _;obtain⟨htl,rfl⟩:=Ey hti;have hg6:Gle G4 G':=hg5.trans hgl;have e4':=dN hg6 e4;have e5':=dN hg6 e5;have e6':=dN hg6 e6;have e7':=dN hg6 e7;have ha5:=ha4.le hg6 Kp;have hb5:=hb4'.le hg6 Kp;have hokx:=mZ hca hx;have hx0:0≤x.1:=by simp[okE]at hokx;omega
  have hx64:I64 x.1:=i1;refine sI ?_;intros;refine gR 0 0 c126r4.eq_1 ?_;intro bb;refine fU (rX ?_);intros;refine gR 27 35 c126r5.eq_1 ?_;refine⟨_,⟨_,rfl,.g e6'⟩,?_⟩;refine sI ?_;refine⟨_,⟨_,rfl,.g e7'⟩,?_⟩;refine sI ?_;refine(qz _ x.1 be _ G' hb5 hlb _ _).mono ?_;rintro v h' ⟨⟨w,o,rfl,hw⟩,rfl⟩;have hcom:=rq hcb hx0 hw;refine sI ?_;intros;refine gR 35 38 c126r6.eq_1 ?_;intros;refine gC ?_
  refine gb (fun h3=>?_) (fun h3=>?_)
  ·have hwx:w=x.1:=by simpa using h3
   obtain⟨k,y,hy,hxy,ho⟩:∃ (k:Nat) (y:Ep),b[k]?=some y∧x.1=y.1∧o=wv b k be:=by
    rcases hcom with⟨_,h⟩ | ⟨h,_⟩
    ·exact h
    ·exact absurd hwx h
   intros;refine gR 39 47 c126r7.eq_1 ?_;refine⟨_,⟨_,rfl,.g e4'⟩,?_⟩;refine sI ?_;refine⟨_,⟨_,rfl,.g e5'⟩,?_⟩;refine sI ?_;refine(qz _ x.1 ae _ G' ha5 hla _ _).mono ?_;rintro v h' ⟨⟨w2,o2,rfl,hw2⟩,rfl⟩;obtain⟨rfl,ho2⟩:=u7 hca hx hw2;refine sI ?_;have hmn:(if o < o2 then o else o2)=min o2 o:=by split <;> omega
   intros;refine gR2 47 50 c126r8.eq_1 @hmn ?_;refine dM [_] [] rfl (by simp) ⟨rfl,rfl⟩ ?_;refine sI ?_;intros;refine dy ?_;refine dG (IL [.blk b8 [.int .i64 (min o2 o)]] (.cons _ Kl) (dF dw) ⟨rfl,_,rfl,?_⟩);refine .inr ⟨hca,hcb,.inr ⟨_,x,k,y,hx,hy,hxy,fun i' x' k' y' hi hx' hy'=>?_,?_⟩⟩
   ·have hi':=(List.getElem?_eq_some_iff.1 hx').1;refine hno (a.length - 1 - i') x' k' y' (by omega) ?_ hy';rw[show a.length - 1 - (a.length - 1 - i')=i' by omega];exact hx'
   ·rw[ho,ho2];rfl
  ·have hwx:¬ w=x.1:=by simpa using h3
   intros;refine dy ?_;refine fU (qf [.blk b8 [.int .i64 0]] (.cons _ Kl) (dF dw) ⟨rfl,fun t' x' k y ht' hx' hy=>?_⟩);by_cases htt:t'=t
   ·subst htt;rw[hx]at hx';cases hx';rcases hcom with⟨h,_⟩ | ⟨_,h⟩
    ·exact absurd h hwx
    ·exact h k y hy
   ·exact hno t' x' k y (by omega) hx' hy
 ·rintro G' L' dd hgl ⟨rfl,hno⟩ _;intros;refine gR 0 0 c126r9.eq_1 ?_;refine dM [] [] rfl (by simp) ⟨rfl,rfl⟩ ?_;refine sI ?_;intros;refine dy ?_;refine dG (fin 0 _ _ _ (.inr ⟨hca,hcb,.inl ⟨fun i x k y hx hy=>?_,rfl⟩⟩) (eE));have hi:=(List.getElem?_eq_some_iff.1 hx).1;refine hno (a.length - 1 - i) x k y (by simp;omega) ?_ hy;rw[show a.length - 1 - (a.length - 1 - i)=i by omega];exact hx
 ·rintro ex t G' L' dd _ hgl ⟨rfl,m,rfl,hmm⟩ _;rw[Bo];exact fin m _ _ _ hmm (eE)
theorem CA{l:List Ep}(h:gK l=0){i k:Nat}{x y:Ep}(hx:l[i]?=some x)(hy:l[k]?=some y)(he:x.1=y.1):i=k:=by
 rcases Nat.lt_trichotomy i k with h1 | h1 | h1
 ·have:=(iS h h1 hx hy).1;omega
 ·exact h1
 ·have:=(iS h h1 hy hx).1;omega
theorem qI{a b:List Ep}{ae be m m':Int}(h:l7 a b ae be m)(h':l7 a b ae be m'):m=m':=by
 rcases h with⟨h1,rfl⟩ | ⟨h1,h2,h3⟩ <;> rcases h' with⟨h1',rfl⟩ | ⟨h1',h2',h3'⟩
 ·rfl
 ·rcases h1 with h | h
  ·exact absurd h1' h
  ·exact absurd h2' h
 ·rcases h1' with h | h
  ·exact absurd h1 h
  ·exact absurd h2 h
 ·rcases h3 with⟨h4,rfl⟩ | ⟨i,x,k,y,hx,hy,hxy,hm,rfl⟩ <;> rcases h3' with⟨h4',rfl⟩ | ⟨i',x',k',y',hx',hy',hxy',hm',rfl⟩
  ·rfl
  ·exact absurd hxy' (h4 _ _ _ _ hx' hy')
  ·exact absurd hxy (h4' _ _ _ _ hx hy)
  ·have e:i=i':=by
    rcases Nat.lt_trichotomy i i' with h | h | h
    ·exact absurd hxy' (hm _ _ _ _ h hx' hy')
    ·exact h
    ·exact absurd hxy (hm' _ _ _ _ h hx hy)
   subst e;rw[hx]at hx';cases hx';have e:=CA h2 hy hy' (by omega);subst e;rfl
theorem vU{l:List Ep}(h:gK l=0){i:Nat}{x p:Ep}{en:Int}(hx:l[i]?=some x)(hp:l[l.length - 1]?=some p)(he:p.2≤en):0≤wv l i en∧wv l i en≤en:=by
 have hp0:=mZ h hp;unfold wv;cases hy:l[i+1]? with
 | none=>simp[okE]at hp0 ⊢;omega
 | some y =>
  have hy0:=mZ h hy;have:y.2≤p.2:=by
   by_cases hi:i+1=l.length - 1
   ·rw[hi,hp]at hy;cases hy;omega
   ·have h2:=(List.getElem?_eq_some_iff.1 hy).1;have:=(iS h (show i+1 < l.length - 1 by omega) hy hp).2;omega
  simp[okE]at hy0 ⊢;omega
theorem uF{a b:List Ep}{ae be m:Int}{p q:Ep}(h:l7 a b ae be m)(ha:gK a=0)(hb:gK b=0)(hp:a[a.length - 1]?=some p)(hq:b[b.length - 1]?=some q)(hpe:p.2≤ae)(hqe:q.2≤be):0≤m∧m≤ae∧m≤be:=by
 have hp0:=mZ ha hp;have hq0:=mZ hb hq;simp[okE]at hp0 hq0;rcases h with⟨h1,rfl⟩ | ⟨_,_,h3⟩
 ·omega
 ·rcases h3 with⟨_,rfl⟩ | ⟨i,x,k,y,hx,hy,_,_,rfl⟩
  ·omega
  ·have h5:=vU ha hx hp hpe;have h6:=vU hb hy hq hqe;omega
theorem nm{a b:List Ep}{ae be m:Int}(h:l7 a b ae be m)(hz:gK a≠0∨gK b≠0∨a=[]∨b=[]):m=0:=by
 rcases h with⟨h1,rfl⟩ | ⟨h1,h2,h3⟩
 ·rfl
 ·rcases h3 with⟨_,rfl⟩ | ⟨i,x,k,y,hx,hy,_,_,rfl⟩
  ·rfl
  ·rcases hz with h | h | h | h
   ·exact absurd h1 h
   ·exact absurd h2 h
   ·subst h;simp at hx
   ·subst h;simp at hy
theorem F119:Fun Tryz.prog 119 8 v119 c119 o119:=Fun.mkA Tryz.func119 Tryz.ntmps119
theorem F67:Fun Tryz.prog 67 60 v67 c67 o67:=Fun.mkA Tryz.func67 Tryz.ntmps67
theorem RR1:∀ (x:Rec) cs,RR x cs→∀ u∈cs,u.oneCell'=true:=fun x cs h u hu=>by
 rw[h.1]at hu;simp[ia]at hu;rcases hu with rfl | rfl | rfl | rfl | rfl <;> rfl
def o8(x:Batch)(L':J8)(cs:J6):Prop:=∃ u zc,cs=eP x u∧L'=[.row u 103 5 x.recs.length zc]∧Cells RR 5 x.recs zc∧I64 x.base∧I64 x.last∧I64 x.src∧I64 x.epoch∧I64 x.pid∧I64 x.gen∧I64 x.seq∧I64 x.ctl
theorem o8.gx{x:Batch}{G:J5}{L' L:J8}{D:Kh}{cs:J6}(h:o8 x L' cs):eD ⟨G,L'++L,D⟩ fun h'=>∃ G',h'=⟨G',L,D⟩∧Gle G G'∧BE G' x cs:=by
 obtain⟨u,zc,rfl,rfl,hc,hi⟩:=h;refine(kF (by decide) hc).mono ?_;rintro h' ⟨G',rfl,hg,A,c,rfl,h1,h2,h3⟩;exact⟨G',rfl,hg,A,c,rfl,⟨h1,h2,h3⟩,hi⟩
theorem vd(l:List Rec)(v:Value)(G:J5)(hl:SlV G RR 5 v l)(hb:l.length≤1000):FnO Tryz.prog 119 #[v] G [] (fun _ L' r=>yv RR 103 5 l L' r):=by
 refine F119.fnO (by simp) dw (dI ?_);have hl0:=hl;obtain⟨A,c,rfl,hc,hm,hA⟩:=hl;unfold c119;intros;refine gR 0 0 c119r0.eq_1 ?_;intros;refine gR 3 4 c119r1.eq_1 ?_;intros;refine gC ?_;refine gb (fun ht=>?_) (fun ht=>?_)
 ·intros;refine gR 0 0 c119r2.eq_1 ?_;intros;refine dy ?_;have hA0:l=[]:=by
   match l,hA with
   | [],_=>rfl
   | x :: xs,hA=>obtain⟨a,_,ha,_⟩:=hA 0 x rfl;subst ha;cases ht
  subst hA0;refine dA (dW none 103 5) ?_;refine dG (dL _ rfl Kl (dz dw) ?_);exact⟨[],.nil,rfl⟩
 ·intros;refine gN ?_;intros;refine gR 5 8 c119r3.eq_1 ?_;intro b hb';refine my (.inr ⟨⟨_,rfl⟩,rfl,rfl,rfl,rfl⟩) hl0 rfl RR1 ⟨by omega,by unfold maxLen;omega⟩ fun ys A c hc=>?_
  simp only[Nat.zero_add];refine sI ?_;intros;refine dy ?_;refine dG (dL _ rfl Kl (dz dw) ?_);exact⟨ys,hc,rfl⟩
theorem CQ{α:Type}{P:Program}{f:FuncId}{args:Array Value}{G:J5}{E:α→J6→Prop}{et sz:Nat}{zs:List α}(hf:FnO P f args G [] (fun _ L' r=>yv E et sz zs L' r)):
  FnO P f args G [] (fun _ L' r=>∃ A c ys,r=.slice A zs.length c∧(zs.length≤c∧c≤maxLen)∧Cells E sz zs ys∧L'=[.row r et sz zs.length ys]):=fun L D =>
 (hf L D).gx fun v h' ⟨G',L',he,hg,ys,hc,hL⟩=>by
  subst he hL;exact(gU (.head _)).mono fun h' ⟨h1,A,c,h2,h3,h4⟩=>⟨G',_,h1,hg,A,c,ys,h2,⟨h3,h4⟩,hc,rfl⟩
def xI(by_:Int)(r:Rec):Rec:=⟨r.off+by_,r.key,r.val,r.dead,r.stamp⟩
def uZ(x:Batch)(base:Int):Batch:=⟨base,x.last+(base - x.base),x.src,x.epoch,x.pid,x.gen,x.seq,x.txn,x.ctl,x.recs.map (xI (base - x.base))⟩
def fg(x:Batch)(base:Int):Batch × Int:=if rng 1099511627776 base=true then(if fx x=0 then(if fx (uZ x base)=0 then(uZ x base,0)else(kD,fx (uZ x base)))else(kD,fx x))else(kD,1)
def Hk(p:Batch × Int)(L':J8)(r:Value):Prop:=∃ cs,r=.tuple #[.agg cs.toArray,.int .i64 p.2]∧o8 p.1 L' cs
theorem o8.none:o8 kD [.row (.slice none 0 0) 103 5 0 []] [.int .i64 0,.int .i64 0,.int .i64 0,.int .i64 0,.int .i64 0,.int .i64 0,.int .i64 0,.bool false,.int .i64 0,.slice none 0 0]:=⟨_,[],rfl,rfl,.nil,by decide,by decide,by decide,by decide,by decide,by decide,by decide,by decide⟩
theorem yT{l:List Rec}{f:Rec→Rec}{k:Nat}{r:Rec}(hr:l[k]?=some r):((l.map f).take k++l.drop k).set k (f r)=(l.map f).take (k+1)++l.drop (k+1):=by
 have h:=List.getElem?_eq_some_iff.1 hr;have hk:k < (l.map f).length:=by simpa using h.1
 have hl:((l.map f).take k).length=k:=by have:=h.1;simp;omega
 rw[List.set_append_right _ _ (by omega),hl,Nat.sub_self,List.drop_eq_getElem_cons h.1,List.set_cons_zero,List.take_succ_eq_append_getElem hk,append_assoc];congr 2;simp[h.2]
theorem Cw{l:List Rec}{f:Rec→Rec}{k:Nat}{r:Rec}(hr:l[k]?=some r):((l.map f).take k++l.drop k)[k]?=some r:=by
 have h:=List.getElem?_eq_some_iff.1 hr;have hl:((l.map f).take k).length=k:=by have:=h.1;simp;omega
 rw[List.getElem?_append_right (by omega),hl,Nat.sub_self,List.getElem?_drop,Nat.add_zero,hr]
theorem Ds{by_:Int}{r:Rec}(h:RR r (ia r))(hi:I64 (r.off+by_)):RR (xI by_ r) (ia (xI by_ r)):=⟨rfl,⟨hi,h.2.1.2⟩,h.2.2⟩
set_option maxHeartbeats 1000000 in
theorem yM(x:Batch)(base:Int)(cs:J6)(G:J5)(hx:BE G x cs)(hbi:I64 base):FnO Tryz.prog 67 #[.agg cs.toArray,.int .i64 base] G [] (fun _ L' r=>Hk (fg x base) L' r):=by
 have hck:=ly x cs G hx;have hx0:=hx;obtain⟨A,c,rfl,⟨hc,hm,hA⟩,i1,i2,i3,i4,i5,i6,i7,i8⟩:=hx;refine F67.fnO (by simp) dw (dI ?_);unfold c67;unfold eP at hck ⊢;have hrow:=fun v=>l5 1099511627776 base [] v 1 _ (.one (cs:=[.int .i64 base]) ⟨rfl,hbi⟩ rfl) G
 rw[show([base]:Ki).all (rng 1099511627776)=rng 1099511627776 base by simp]at hrow;intros;refine gR 0 0 c67r0.eq_1 ?_;intros;refine gR 10 13 c67r1.eq_1 ?_;intro b1 hb1;refine fK (hrow _ _ _) ?_;intros;refine gC ?_;refine gb (fun k1=>?_) (fun k1=>?_)
 ·have k1:¬ rng 1099511627776 base=true:=by simpa using k1
  intros;refine gR 14 15 c67r2.eq_1 ?_;intros;refine dy ?_;refine dA (dW none 103 5) ?_;refine dG (dL _ rfl (.cons_cons _ Km) (dz dw) ?_);rw[fg,if_neg k1];exact⟨[.int .i64 0,.int .i64 0,.int .i64 0,.int .i64 0,.int .i64 0,.int .i64 0,.int .i64 0,.bool false,.int .i64 0,.slice none 0 0],rfl,o8.none⟩
 have k1:rng 1099511627776 base=true:=by simpa using k1
 have k1':0≤base∧base≤1099511627776:=by simpa [rng]using k1
 intros;refine gN ?_;intros;refine gR 15 17 c67r3.eq_1 ?_;refine fK (hck _ _) ?_;intros;refine gR 17 18 c67r4.eq_1 ?_;intros;refine gC ?_;refine gb (fun k2=>?_) (fun k2=>?_)
 ·have k2:=Kn k2;intros;refine gR 19 21 c67r5.eq_1 ?_;intros;refine dy ?_;refine dA (dW none 103 5) ?_;refine dG (dL _ rfl (.cons_cons _ Km) (dz dw) ?_);rw[fg,if_pos k1,if_neg k2];exact⟨[.int .i64 0,.int .i64 0,.int .i64 0,.int .i64 0,.int .i64 0,.int .i64 0,.int .i64 0,.bool false,.int .i64 0,.slice none 0 0],rfl,o8.none⟩
 have k2:fx x=0:=by simpa using k2
 have hmv:fg x base=if fx (uZ x base)=0 then(uZ x base,0)else(kD,fx (uZ x base)):=by rw[fg,if_pos k1,if_pos k2]
 obtain⟨hf,-⟩:=ja k2;obtain⟨hrc,hrl⟩:=lp hf;obtain⟨⟨f1,f2,-⟩,-,⟨f7,f8,-,-⟩,-⟩:=hf;simp[rng]at f1 f2;have w1:IntKind.i64.wrap (base - x.base)=base - x.base:=by rw[dX] <;> omega
 have w2:IntKind.i64.wrap (x.last+(base - x.base))=x.last+(base - x.base):=by rw[dX] <;> omega
 have hlast:I64 (x.last+(base - x.base)):=by unfold I64;omega
 have hby:-1099511627776≤base - x.base∧base - x.base≤1099511627776:=by omega
 have hmb:uZ x base=⟨base,x.last+(base - x.base),x.src,x.epoch,x.pid,x.gen,x.seq,x.txn,x.ctl,x.recs.map (xI (base - x.base))⟩:=rfl;intros;refine gN ?_;intros;refine gR2 21 25 c67r6.eq_1 @w1 ?_;intros;try refine dx ?_
 refine dA (dE (L':=[.reg 4 [.int .i64 0,.int .i64 0,.int .i64 0,.int .i64 0,.int .i64 0,.int .i64 0,.int .i64 0,.bool false,.int .i64 0,.slice none 0 0],.reg 2 [.int .i64 x.base,.int .i64 x.last,.int .i64 x.src,.int .i64 x.epoch,.int .i64 x.pid,.int .i64 x.gen,.int .i64 x.seq,.bool x.txn,.int .i64 x.ctl,.slice A x.recs.length c]]) (.cons _ Kl)) ?_
 intros;refine dy ?_;refine qY _ Kl (by decide) ?_;refine sJ2 c67r7.eq_1 @w2 ?_;refine(CQ (vd x.recs _ G ⟨A,c,rfl,hc,hm,hA⟩ (by omega)) _ []).mono ?_;rintro u h' ⟨G1,L',rfl,hg1,A',c',zc,rfl,⟨hc1',hc2'⟩,hzc,rfl⟩;refine⟨dO hg1 (.cons _ Kl),?_⟩;refine sI ?_;refine fX ?_;refine sI ?_;refine fX ?_;refine sI ?_;intros;have hmvl:(x.recs.map (xI (base - x.base))).length=x.recs.length:=by simp
 intros;try refine dx ?_
 refine ez (fun e h=>∃ (zc':J6),Cells RR 5 (x.recs.map (xI (base - x.base))) zc'∧h=⟨G1,[.row (.slice A' x.recs.length c') 103 5 x.recs.length zc',.reg 4 [.int .i64 0,.int .i64 0,.int .i64 0,.int .i64 0,.int .i64 0,.int .i64 0,.int .i64 0,.bool false,.int .i64 0,.slice none 0 0],.reg 2 [.int .i64 base,.int .i64 (x.last+(base - x.base)),.int .i64 x.src,.int .i64 x.epoch,.int .i64 x.pid,.int .i64 x.gen,.int .i64 x.seq,.bool x.txn,.int .i64 x.ctl,.slice A' x.recs.length c']],[]⟩) ?_ ?_
 ·intros;refine gR 37 38 c67r8.eq_1 ?_;intros;refine dy ?_
  refine dV (fun e h=>∃ (k:Nat) (zc':J6),(k≤x.recs.length∧Cells RR 5 ((x.recs.map (xI (base - x.base))).take k++x.recs.drop k) zc')∧e 39=.int .i64 k∧e 38=.int .i64 x.recs.length∧e 7=.int .i64 (base - x.base)∧h=⟨G1,[.row (.slice A' x.recs.length c') 103 5 x.recs.length zc',.reg 4 [.int .i64 0,.int .i64 0,.int .i64 0,.int .i64 0,.int .i64 0,.int .i64 0,.int .i64 0,.bool false,.int .i64 0,.slice none 0 0],.reg 2 [.int .i64 base,.int .i64 (x.last+(base - x.base)),.int .i64 x.src,.int .i64 x.epoch,.int .i64 x.pid,.int .i64 x.gen,.int .i64 x.seq,.bool x.txn,.int .i64 x.ctl,.slice A' x.recs.length c']],[]⟩) (fun e h=>x.recs.length - iv (e 39)) ?_ ?_
  ·exact⟨0,zc,⟨Nat.zero_le _,by simpa using hzc⟩,eE,eE,eE,rfl⟩
  ·rintro e h ⟨k,zc',⟨hk,hcs⟩,e39,e38,e7,rfl⟩;refine dC [7,38,39] ?_;refine sJ3 @e7 @e38 @e39 ?_;intros;refine gR 0 0 c67r9.eq_1 ?_;intros;refine gC ?_;refine gb (fun ht=>?_) (fun ht=>?_)
   ·have ht:k < x.recs.length:=by have:=Kn ht;omega
    have hw:=fi k c' (by omega) hc2';obtain⟨r,hr⟩:∃ r,x.recs[k]?=some r:=⟨x.recs[k],getElem?_eq_getElem (by omega)⟩;have hget:=Cw (f:=xI (base - x.base)) hr;have hset:=yT (f:=xI (base - x.base)) hr;have hch:=fN (hrc r (mem_of_getElem? hr));have hoff:=fO.1 hch.1.1;have w3:IntKind.i64.wrap (r.off+(base - x.base))=r.off+(base - x.base):=by rw[dX] <;> omega
    obtain⟨cs0,hE0,hl0,hcell⟩:=hcs.get hget;have hv0:=hcell 0 (.int .i64 r.off) (by rw[hE0.1];rfl);rw[Nat.add_zero]at hv0;have hnew:=hcs.setF (o:=0) (us:=[.int .i64 (r.off+(base - x.base))]) (x':=xI (base - x.base) r) hget (by simp) (fun cs hE hl=>by
     have h1:=hE.1
     subst h1
     exact Ds ⟨rfl,hE.2⟩ (by unfold I64;omega))
    rw[hset,Nat.add_zero]at hnew;intros;refine gN ?_;intros;refine gR 41 42 c67r10.eq_1 ?_;intros;refine dy ?_;refine ei (kI (v:=.slice A' x.recs.length c') (.head _) (by omega)) ?_;rintro h' ⟨rfl,g,c0,hA,-,-⟩;cases hA;intros;refine gR 43 52 c67r11.eq_1 ?_;refine⟨by omega,_,rfl,?_⟩;rw[eA,eA,Nat.zero_add];refine⟨_,eV (.head _) (by simpa using hv0),?_⟩;refine sJ2 @w3 @Nat.zero_add ?_
    refine⟨by omega,_,rfl,?_⟩;rw[eA,eA,Nat.zero_add];refine fQ [] [_,_] rfl (by have:=hcs.len;simp at this ⊢;omega) ⟨rfl,rfl⟩ ?_;refine sI ?_;intros;refine gR 52 53 c67r12.eq_1 ?_;intros;refine dy ?_;refine ej ⟨⟨k+1,_,⟨by omega,hnew⟩,(eJ @hw),eE,eE,rfl⟩,?_⟩;refine sJ @hw ?_;omega
   ·have ht:k=x.recs.length:=by have:=Ko ht;omega
    subst ht;rw[List.take_of_length_le (by omega),List.drop_length,append_nil]at hcs;refine dS ?_;refine sI ?_;exact ej ⟨zc',hcs,rfl⟩
 rintro e h ⟨zc',hcs,rfl⟩
 have hck':∀ L D,eh Tryz.prog 118 #[.agg #[.int .i64 base,.int .i64 (x.last+(base - x.base)),.int .i64 x.src,.int .i64 x.epoch,.int .i64 x.pid,.int .i64 x.gen,.int .i64 x.seq,.bool x.txn,.int .i64 x.ctl,.slice A' x.recs.length c']] ⟨G1,.row (.slice A' x.recs.length c') 103 5 x.recs.length zc' :: L,D⟩ fun r h'=>r=.int .i64 (fx (uZ x base))∧h'=⟨G1,.row (.slice A' x.recs.length c') 103 5 x.recs.length zc' :: L,D⟩:=fun L D =>
  Fb (E:=RR) (xs:=x.recs.map (xI (base - x.base))) (R:=fun r=>r=.int .i64 (fx (uZ x base))) F118.enters (by decide) hcs fun G' hg hx=>by
   obtain⟨A2,c2,hv,h1,h2,h3⟩:=hx;rw[hmvl]at hv;injection hv with e1 e2 e3
   subst e1 e3;exact ly (uZ x base) [.int .i64 base,.int .i64 (x.last+(base - x.base)),.int .i64 x.src,.int .i64 x.epoch,.int .i64 x.pid,.int .i64 x.gen,.int .i64 x.seq,.bool x.txn,.int .i64 x.ctl,.slice A' x.recs.length c'] G' ⟨A',c',by simp[eP,hmb],⟨h1,h2,h3⟩,hbi,hlast,i3,i4,i5,i6,i7,i8⟩ _ _
 intros;intros;refine gR 53 55 c67r13.eq_1 ?_;refine fK (hck' _ _) ?_;intros;refine gR 55 56 c67r14.eq_1 ?_;intros;refine gC ?_;refine gb (fun k3=>?_) (fun k3=>?_)
 ·have k3:=Kn k3;intros;refine gR 57 59 c67r15.eq_1 ?_;intros;refine dy ?_;refine dA (dW none 103 5) ?_;refine dG (dL _ rfl (.cons_cons _ Km) (dz dw) ?_);rw[hmv,if_neg k3];exact⟨[.int .i64 0,.int .i64 0,.int .i64 0,.int .i64 0,.int .i64 0,.int .i64 0,.int .i64 0,.bool false,.int .i64 0,.slice none 0 0],rfl,o8.none⟩
 have k3:fx (uZ x base)=0:=by simpa using k3
 intros;refine gN ?_;intros;refine gR 59 60 c67r16.eq_1 ?_;intros;refine dy ?_;refine dG (dL _ rfl (.cons_cons _ Km) (dz dw) ?_);rw[hmv,if_pos k3];exact⟨_,rfl,.slice A' x.recs.length c',zc',by simp[eP,hmb],by simp[hmb],hcs,hbi,hlast,i3,i4,i5,i6,i7,i8⟩
end Go.Proofs.YtpmofpekcbghnaaGreat
namespace Go.Proofs.YtpmofpekcbghnaaGreat
open Go Go.Kx
open List (getElem?_eq_getElem mem_of_getElem? length_append append_nil append_assoc length_cons take_length)
structure Rp where
 id:Int
 up:Bool
 log:Lg
 eps:List Ep
 high:Int
structure Pt where
 epoch:Int
 leader:Int
 least:Int
 isr:Ki
 reps:List Rp
def iz:Pt:=⟨0,0,0,[],[]⟩
def idI(n:Int):Bool:=decide (0≤n) && decide (n≤1048576)
def fu(l:Ki):Prop:=l≠[]∧(∀ n∈l,idI n=true)∧l.Pairwise (· < ·)
def pr(r:Rp):Lg:=if r.up=true then r.log else(ib r.log).1
def okR(r:Rp):Prop:=(idI r.id=true∧gK r.eps=0∧0≤r.high∧r.high≤1099511627777)∧fq (pr r)=0∧(r.up=true→r.high≤ec r.log)
def fE(l:List Rp):Ki:=l.map (·.id)
def okP(p:Pt):Prop:=(idI p.epoch=true∧fu (fE p.reps)∧p.reps.length≤5∧(1≤p.least∧p.least≤(p.reps.length:Int))∧∀ r∈p.reps,okR r) ∧
 (fu p.isr∧∀ n∈p.isr,n∈fE p.reps)∧(p.leader=-1∨(∃ r∈p.reps,r.id=p.leader∧r.up=true)∧p.leader∈p.isr)
open Classical in
noncomputable def fy(p:Pt):Int:=if okP p then 0 else 1
theorem lL{p:Pt}(h:fy p=0):okP p:=by
 unfold fy at h;split at h
 ·assumption
 ·cases h
def atR:List Rp→Int→Kk
 | [],_=>none
 | r :: l,n=>if r.id=n then some 0 else(atR l n).map (· + 1)
theorem g9:∀ {l:List Rp} {n:Int} {k:Nat},atR l n=some k→∃ r,l[k]?=some r∧r.id=n
 | [],_,_,h=>by cases h
 | r :: l,n,k,h=>by
  rw[atR]at h;split at h
  ·rename_i h1;cases h;exact⟨r,rfl,h1⟩
  ·obtain⟨j,hj,rfl⟩:=Option.map_eq_some_iff.1 h;exact g9 (l:=l) hj
theorem tN:∀ {l:List Rp} {n:Int},atR l n=none→∀ r∈l,r.id≠n
 | [],_,_,r,hr=>by cases hr
 | r :: l,n,h,x,hx=>by
  rw[atR]at h;split at h
  ·cases h
  ·rename_i h1;have h2:atR l n=none:=by simpa using h
   rcases List.mem_cons.1 hx with rfl | hx
   ·exact h1
   ·exact tN h2 x hx
theorem qK{l:List Rp}{n:Int}(h:n∈fE l):∃ k r,atR l n=some k∧l[k]?=some r∧r.id=n:=by
 cases hk:atR l n with
 | some k =>
  obtain⟨r,h1,h2⟩:=g9 hk;exact⟨k,r,rfl,h1,h2⟩
 | none =>
  obtain⟨r,hr,rfl⟩:=List.mem_map.1 h;exact absurd rfl (tN hk r hr)
theorem m7{l:List Rp}(hs:(fE l).Pairwise (· < ·)){k:Nat}{r:Rp}(h:l[k]?=some r):atR l r.id=some k:=by
 obtain⟨j,x,h1,h2,h3⟩:=qK (l:=l) (n:=r.id) (List.mem_map.2 ⟨r,mem_of_getElem? h,rfl⟩);rw[h1];congr 1;have e1:(fE l)[k]?=some r.id:=by rw[fE,List.getElem?_map,h];rfl
 have e2:(fE l)[j]?=some r.id:=by rw[fE,List.getElem?_map,h2,← h3];rfl
 obtain⟨g1,e1⟩:=List.getElem?_eq_some_iff.1 e1;obtain⟨g2,e2⟩:=List.getElem?_eq_some_iff.1 e2;rw[List.pairwise_iff_getElem]at hs;rcases Nat.lt_trichotomy j k with h4 | h4 | h4
 ·have:=hs j k g2 g1 h4;omega
 ·exact h4
 ·have:=hs k j g1 g2 h4;omega
open Classical in
noncomputable def lX(a b:List Ep)(ae be:Int):Int:=if h:∃ m,l7 a b ae be m then Classical.choose h else 0
theorem oV{a b:List Ep}{ae be m:Int}(h:l7 a b ae be m):lX a b ae be=m:=by
 have h1:∃ m,l7 a b ae be m:=⟨m,h⟩;rw[lX,dif_pos h1];exact qI (Classical.choose_spec h1) h
noncomputable def jC(x r:Rp):Int:=lX x.eps r.eps (ec x.log) (ec r.log)
noncomputable def kE(l:List Rp)(k:Nat)(r:Rp)(m n:Int):Int :=
 match atR l n with
 | some i=>if i=k then m else min m (match l[i]? with | some x=>jC x r | none=>m)
 | none=>m
noncomputable def fe(l:List Rp)(k:Nat)(r:Rp)(m:Int)(is:Ki):Int:=is.foldl (kE l k r) m
noncomputable def dY(p:Pt):Pt :=
 if p.leader < 0 then p else match atR p.reps p.leader with
 | none=>p
 | some k=>match p.reps[k]? with
  | none=>p
  | some r=>{ p with reps:=p.reps.set k { r with high:=max r.high (fe p.reps k r (ec r.log) p.isr) } }
noncomputable def Jf(p:Pt)(f:Pt→Pt × Int):Pt × Int:=if fy p=0 then(if (f p).2=0 then((f p).1,0)else(iz,(f p).2))else(iz,fy p)
noncomputable def ofP(p:Pt)(n:Int)(f:Pt→Nat→Rp→Pt × Int):Pt × Int:=Jf p fun p=>match atR p.reps n with
 | none=>(p,1)
 | some k=>match p.reps[k]? with
  | none=>(p,1)
  | some r=>f p k r
def fV(p:Pt)(k:Nat)(r:Rp):Pt:={ p with reps:=p.reps.set k r }
noncomputable def ji(n:Int)(p:Pt)(k:Nat)(r:Rp):Pt × Int :=
 if p.leader < 0 then(p,180)else if n=p.leader∨n∉p.isr then(p,181)else(dY { p with isr:=p.isr.filter fun m=>decide (m≠n) },0)
def mw(s:Sg)(n:Int):Sg:=⟨s.base,s.bytes.take (s.bytes.length - (min n s.bytes.length).toNat)⟩
def kM(l:Lg)(n:Int):Lg:=⟨l.limit,l.start,l.segs.set (l.segs.length - 1) (mw (uR l (l.segs.length - 1)) n)⟩
noncomputable def gI(n torn:Int)(p:Pt)(k:Nat)(r:Rp):Pt × Int :=
 if torn < 0 then(p,1)else if r.up=false then(p,180)else
  (dY ⟨p.epoch,if p.leader=n then -1 else p.leader,p.least,if 1 < p.isr.length then p.isr.filter fun m=>decide (m≠n)else p.isr,p.reps.set k { r with up:=false,log:=kM r.log torn }⟩,0)
noncomputable def pb(r:Rp):Rp:=⟨r.id,true,(ib r.log).1,kV r.eps (ec (ib r.log).1),min r.high (ec (ib r.log).1)⟩
noncomputable def jo(p:Pt)(k:Nat)(r:Rp):Pt × Int:=if r.up=true then(p,150)else(fV p k (pb r),0)
noncomputable def fP(n:Int)(p:Pt)(k:Nat)(r:Rp):Pt × Int :=
 if r.up=false then(p,180)else if n∉p.isr then(p,181)else if p.epoch=1048576 then(p,2)else(dY { p with epoch:=p.epoch+1,leader:=n },0)
noncomputable def j6(b:Batch)(p:Pt):(Pt × Int) × Int :=
 if p.leader < 0 then((p,180),0)else if (p.isr.length:Int) < p.least then((p,181),0)else
  match atR p.reps p.leader with
  | none=>((p,0),0)
  | some k=>match p.reps[k]? with
   | none=>((p,0),0)
   | some r =>
    if (fg b (ec r.log)).2≠0 then((p,(fg b (ec r.log)).2),0)else
     let x:Batch:={ (fg b (ec r.log)).1 with epoch:=p.epoch }
     if (gJ r.log x).2≠0 then((p,(gJ r.log x).2),x.base)else
      if (iq r.eps p.epoch x.base).2≠0 then((p,(iq r.eps p.epoch x.base).2),x.base)else
       ((dY (fV p k { r with log:=(gJ r.log x).1,eps:=(iq r.eps p.epoch x.base).1 }),0),x.base)
noncomputable def pF(p:Pt)(b:Batch):(Pt × Int) × Int :=
 let q:=Jf p fun p=>(j6 b p).1
 if q.2=0 then(q,(j6 b p).2)else((iz,q.2),0)
def iQ:Lg→Kg→Lg × Bool
 | l,[]=>(l,true)
 | l,b :: bs=>if (gJ l b).2=0 then iQ (gJ l b).1 bs else((gJ l b).1,false)
def eS(l lead:Lg)(to:Int):Lg × Bool :=
 let x:=j5 l to
 if x.2≠0∨(gz lead).length < (gz x.1).length∨gz x.1≠(gz lead).take (gz x.1).length then(x.1,false)else
  iQ x.1 ((gz lead).drop (gz x.1).length)
noncomputable def dJ(r lead:Rp):Rp :=
 let m:=jC r lead
 let c:=eS r.log lead.log (min m (ec r.log))
 { r with log:=if r.log.start=lead.log.start∧r.log.start≤m∧c.2=true then c.1 else lead.log,eps:=lead.eps }
def fj:Ki→Int→Ki
 | [],n=>[n]
 | m :: l,n=>if m < n then m :: fj l n else if m=n then m :: l else n :: m :: l
noncomputable def fW(n:Int)(p:Pt)(k:Nat)(r:Rp):Pt × Int :=
 if p.leader < 0∨r.up=false then(p,180)else if n=p.leader then(p,0)else
  match atR p.reps p.leader with
  | none=>(p,0)
  | some j=>match p.reps[j]? with
   | none=>(p,0)
   | some lead =>
    let r1:=dJ r lead
    let e:=ec r1.log
    let p1:Pt:={ p with isr:=if lead.high≤e then fj p.isr n else p.isr,reps:=p.reps.set k { r1 with high:=min r.high e } }
    let p2:=dY p1
    let lead2:=(p2.reps[j]?.getD lead)
    (fV p2 k { r1 with high:=min (max (min r.high e) lead2.high) e },0)
noncomputable def mS(p:Pt):Int :=
 if fy p≠0 then 0 else if 0≤p.leader then(match atR p.reps p.leader with | some k=>(p.reps[k]?.map (·.high)).getD 0 | none=>0)
 else p.isr.foldl (fun m n=>max m (match atR p.reps n with | some k=>(p.reps[k]?.map (·.high)).getD 0 | none=>0)) 0
noncomputable def lZ(p:Pt):Lg × Int :=
 if fy p≠0 then(gy,fy p)else if p.leader < 0 then(gy,180)else(match atR p.reps p.leader with | some k=>(p.reps[k]?.map (·.log)).getD gy | none=>gy,0)
open Classical in
noncomputable def sM(l:Ki)(limit least:Int):Pt × Int :=
 if (qt limit 0).2=0∧fu l∧l.length≤5∧1≤least∧least≤(l.length:Int)then(⟨1,l.headD 0,least,l,l.map fun n=>⟨n,true,(qt limit 0).1,[],0⟩⟩,0)else(iz,1)
end Go.Proofs.YtpmofpekcbghnaaGreat
namespace Go.Proofs.YtpmofpekcbghnaaGreat
open Go Go.Kx
open List (getElem?_eq_getElem mem_of_getElem? length_append append_nil append_assoc length_cons take_length)
theorem F59:Fun Tryz.prog 59 19 v59 c59 o59:=Fun.mkA Tryz.func59 Tryz.ntmps59
theorem F58:Fun Tryz.prog 58 9 v58 c58 o58:=Fun.mkA Tryz.func58 Tryz.ntmps58
theorem F109:Fun Tryz.prog 109 19 v109 c109 o109:=Fun.mkA Tryz.func109 Tryz.ntmps109
theorem F56:Fun Tryz.prog 56 9 v56 c56 o56:=Fun.mkA Tryz.func56 Tryz.ntmps56
theorem F107:Fun Tryz.prog 107 19 v107 c107 o107:=Fun.mkA Tryz.func107 Tryz.ntmps107
theorem F54:Fun Tryz.prog 54 9 v54 c54 o54:=Fun.mkA Tryz.func54 Tryz.ntmps54
theorem F105:Fun Tryz.prog 105 49 v105 c105 o105:=Fun.mkA Tryz.func105 Tryz.ntmps105
theorem F106:Fun Tryz.prog 106 9 v106 c106 o106:=Fun.mkA Tryz.func106 Tryz.ntmps106
def fF(r:Rp)(A:Ka)(c:Nat)(B:Ka)(d:Nat):J6:=[.int .i64 r.id,.bool r.up,.int .i64 r.log.limit,.int .i64 r.log.start,.slice A r.log.segs.length c,.slice B r.eps.length d,.int .i64 r.high]
def RE(G:J5)(r:Rp)(cs:J6):Prop:=∃ A c B d,cs=fF r A c B d∧SlV G (SE G) 2 (.slice A r.log.segs.length c) r.log.segs∧SEp G (.slice B r.eps.length d) r.eps∧(I64 r.log.limit∧I64 r.log.start)∧I64 r.id∧I64 r.high
theorem RE.le{G G':J5}(hg:Gle G G'){r:Rp}{cs:J6}(h:RE G r cs):RE G' r cs:=by
 obtain⟨A,c,B,d,h1,h2,h3,h4⟩:=h;exact⟨A,c,B,d,h1,SlSE.le hg h2,h3.le hg Kp,h4⟩
theorem SlR.le{G G':J5}(hg:Gle G G'){v:Value}{l:List Rp}(h:SlV G (RE G) 7 v l):SlV G' (RE G') 7 v l:=h.le hg fun _ _ h=>RE.le hg h
theorem IE1:∀ (x:Int) cs,IE x cs→∀ u∈cs,u.oneCell'=true:=fun x cs h u hu=>by
 rw[h.1]at hu;simp at hu;rw[hu];rfl
theorem RE1{G:J5}:∀ (x:Rp) cs,RE G x cs→∀ u∈cs,u.oneCell'=true:=fun x cs h u hu=>by
 obtain⟨A,c,B,d,rfl,-⟩:=h;simp[fF]at hu;rcases hu with rfl | rfl | rfl | rfl | rfl | rfl | rfl <;> rfl
theorem jB{α:Type}(p:α→Bool):∀ (l:List α) (i:Nat),decide (0≤fS p l i)=l.any p
 | [],i=>rfl
 | x :: l,i=>by
  rw[fS,List.any_cons];by_cases h:p x=true
  ·rw[if_pos h,h,Bool.true_or];simp
  ·rw[if_neg h,jB p l,show p x=false by simpa using h,Bool.false_or]
theorem kO{α:Type}(p:α→Bool):∀ (l:List α) (i:Nat),(fS p l i=-1∧∀ x∈l,p x=false)∨∃ k x,fS p l i=((i+k:Nat):Int)∧l[k]?=some x∧p x=true∧∀ y∈l.take k,p y=false
 | [],i=>.inl ⟨rfl,fun x h=>by cases h⟩
 | x :: l,i=>by
  rw[fS];by_cases h:p x=true
  ·rw[if_pos h];exact .inr ⟨0,x,rfl,rfl,h,fun y hy=>by simp at hy⟩
  ·rw[if_neg h];have h':p x=false:=by simpa using h
   rcases kO p l (i+1)with⟨h1,h2⟩ | ⟨k,y,h1,h2,h3,h4⟩
   ·exact .inl ⟨h1,fun z hz=>by rcases List.mem_cons.1 hz with rfl | hz;exact h';exact h2 z hz⟩
   ·refine .inr ⟨k+1,y,by rw[h1];congr 1;omega,h2,h3,fun z hz=>?_⟩;rw[List.take_succ_cons]at hz;rcases List.mem_cons.1 hz with rfl | hz
    ·exact h'
    ·exact h4 z hz
theorem AJ(l:Ki)(n:Int):(l.any fun y=>decide (n=y))=decide (n∈l):=by
 rw[Bool.eq_iff_iff];simp
theorem qE(l:Ki)(n:Int)(v:Value)(G:J5)(hl:SlV G IE 1 v l):FnS Tryz.prog 59 #[v,.int .i64 n] G (.int .i64 (fS (fun y=>decide (n=y)) l 0)):=by
 obtain⟨A,c,rfl,hc,hmx,hA⟩:=hl;refine F59.fnS (by simp) (dI ?_);unfold c59;intros;refine gR 0 0 c59r0.eq_1 ?_;intros;refine gR 6 7 c59r1.eq_1 ?_;intros;refine dy ?_
 refine dV (fun e h=>∃ k:Nat,(k≤l.length∧fS (fun y=>decide (n=y)) l 0=fS (fun y=>decide (n=y)) (l.drop k) k)∧e 8=.int .i64 k∧e 7=.int .i64 l.length∧e 0=.slice A l.length c∧e 1=.int .i64 n∧h=⟨G,[],[]⟩) (fun e h=>l.length - iv (e 8)) ?_ ?_
 ·exact⟨0,⟨Nat.zero_le _,rfl⟩,eE,eE,eE,eE,rfl⟩
 rintro e h ⟨k,⟨hk,hfi⟩,e8,e7,e0,e1,rfl⟩;refine dC [0,1,7,8] ?_;refine sJ4 @e0 @e1 @e7 @e8 ?_;intros;refine gR 0 0 c59r2.eq_1 ?_;intros;refine gC ?_;refine gb (fun ht=>?_) (fun ht=>?_)
 ·have ht:k < l.length:=by have:=Kn ht;omega
  have hw:=fi k c (by omega) hmx;obtain⟨s,hs⟩:∃ s,l[k]?=some s:=⟨l[k],getElem?_eq_getElem (by omega)⟩;rw[ng hs]at hfi;intros;refine gN ?_;intros;refine gR 10 11 c59r3.eq_1 ?_;intros;refine gR 11 16 c59r4.eq_1 ?_;refine hA.x_l1 hs rfl rfl ?_;rintro a1 ha1 u1 ⟨hu,-⟩;cases hu;refine sI ?_;intros;refine gC ?_;refine gb (fun k1=>?_) (fun k1=>?_)
  ·rw[if_pos k1]at hfi;intros;refine gR 17 18 c59r5.eq_1 ?_;intros;refine rW ?_;rw[hfi]
  ·rw[if_neg (by rw[k1];simp)]at hfi;intros;refine gN ?_;intros;refine gR2 18 19 c59r6.eq_1 @hw ?_;intros;refine dy ?_;refine ej ⟨⟨k+1,⟨by omega,hfi⟩,eE,eE,eE,eE,rfl⟩,?_⟩;refine sI ?_;omega
 ·have ht:k=l.length:=by have:=Ko ht;omega
  subst ht;rw[List.drop_length,fS]at hfi;refine dS ?_;refine sI ?_;intros;refine gR 0 0 c59r7.eq_1 ?_;intros;refine rW ?_;rw[hfi]
theorem ka(l:Ki)(n:Int)(v:Value)(G:J5)(hl:SlV G IE 1 v l):FnS Tryz.prog 58 #[v,.int .i64 n] G (.bool (decide (n∈l))):=by
 have hd:decide (fS (fun y=>decide (n=y)) l 0≥0)=decide (n∈l):=by rw[← AJ,← jB _ l 0]
 refine F58.fnS (by simp) (dI ?_);unfold c58;intros;refine gR 0 0 c58r0.eq_1 ?_;intros;refine gR 5 9 c58r1.eq_1 ?_;refine fK (qE l n _ _ hl _ _) ?_;intros;refine rW ?_;rw[← AJ,← jB _ l 0]
theorem nX(l:Ki)(p:Int→Bool)(f:Nat)(cap:Array Value)(v:Value)(G:J5)(hl:SlV G IE 1 v l)(hf:∀ s,s∈l→I64 s→FnS Tryz.prog f (#[.int .i64 s]++cap) G (.bool (p s))):
  FnS Tryz.prog 109 #[v,.func (.func f) #[] cap] G (.int .i64 (fS p l 0)):=by
 obtain⟨A,c,rfl,hc,hmx,hA⟩:=hl;refine F109.fnS (by simp) (dI ?_);unfold c109;intros;refine gR 0 0 c109r0.eq_1 ?_;intros;refine gR 6 7 c109r1.eq_1 ?_;intros;refine dy ?_;refine dV (fun e h=>∃ k:Nat,(k≤l.length∧fS p l 0=fS p (l.drop k) k)∧e 8=.int .i64 k∧e 7=.int .i64 l.length∧e 0=.slice A l.length c∧e 1=.func (.func f) #[] cap∧h=⟨G,[],[]⟩) (fun e h=>l.length - iv (e 8)) ?_ ?_
 ·exact⟨0,⟨Nat.zero_le _,rfl⟩,eE,eE,eE,eE,rfl⟩
 rintro e h ⟨k,⟨hk,hfi⟩,e8,e7,e0,e1,rfl⟩;refine dC [0,1,7,8] ?_;refine sJ4 @e0 @e1 @e7 @e8 ?_;intros;refine gR 0 0 c109r2.eq_1 ?_;intros;refine gC ?_;refine gb (fun ht=>?_) (fun ht=>?_)
 ·have ht:k < l.length:=by have:=Kn ht;omega
  have hw:=fi k c (by omega) hmx;obtain⟨s,hs⟩:∃ s,l[k]?=some s:=⟨l[k],getElem?_eq_getElem (by omega)⟩;rw[ng hs]at hfi;intros;refine gN ?_;intros;refine gR 10 11 c109r3.eq_1 ?_;intros;refine gR 11 16 c109r4.eq_1 ?_;refine hA.x_l1 hs rfl rfl ?_;rintro a1 ha1 u1 ⟨hu,hi⟩;cases hu;have hcl:=hf s (mem_of_getElem? hs) hi;refine sI ?_;refine .inl ⟨f,cap,rfl,?_⟩;refine fK (hcl _ _) ?_
  intros;refine gC ?_;refine gb (fun k1=>?_) (fun k1=>?_)
  ·rw[if_pos k1]at hfi;intros;refine gR 17 18 c109r5.eq_1 ?_;intros;refine rW ?_;rw[hfi]
  ·rw[if_neg (by rw[k1];simp)]at hfi;intros;refine gN ?_;intros;refine gR2 18 19 c109r6.eq_1 @hw ?_;intros;refine dy ?_;refine ej ⟨⟨k+1,⟨by omega,hfi⟩,eE,eE,eE,eE,rfl⟩,?_⟩;refine sI ?_;omega
 ·have ht:k=l.length:=by have:=Ko ht;omega
  subst ht;rw[List.drop_length,fS]at hfi;refine dS ?_;refine sI ?_;intros;refine gR 0 0 c109r7.eq_1 ?_;intros;refine rW ?_;rw[hfi]
theorem ph(l:Ki)(p:Int→Bool)(f:Nat)(cap:Array Value)(v:Value)(G:J5)(hl:SlV G IE 1 v l)(hf:∀ s,s∈l→I64 s→FnS Tryz.prog f (#[.int .i64 s]++cap) G (.bool (p s))):
  FnS Tryz.prog 56 #[v,.func (.func f) #[] cap] G (.bool (l.any p)):=by
 refine F56.fnS (by simp) (dI ?_);unfold c56;intros;refine gR 0 0 c56r0.eq_1 ?_;intros;refine gR 5 9 c56r1.eq_1 ?_;refine fK (nX l p f cap _ _ hl hf _ _) ?_;intros;refine rW ?_;rw[← jB p l 0]
theorem uw(l:List Rp)(p:Rp→Bool)(f:Nat)(cap:Array Value)(v:Value)(G:J5)(hl:SlV G (RE G) 7 v l)(hf:∀ s cs,s∈l→RE G s cs→FnS Tryz.prog f (#[.agg cs.toArray]++cap) G (.bool (p s))):
  FnS Tryz.prog 107 #[v,.func (.func f) #[] cap] G (.int .i64 (fS p l 0)):=by
 obtain⟨A,c,rfl,hc,hmx,hA⟩:=hl;refine F107.fnS (by simp) (dI ?_);unfold c107;intros;refine gR 0 0 c107r0.eq_1 ?_;intros;refine gR 6 7 c107r1.eq_1 ?_;intros;refine dy ?_;refine dV (fun e h=>∃ k:Nat,(k≤l.length∧fS p l 0=fS p (l.drop k) k)∧e 8=.int .i64 k∧e 7=.int .i64 l.length∧e 0=.slice A l.length c∧e 1=.func (.func f) #[] cap∧h=⟨G,[],[]⟩) (fun e h=>l.length - iv (e 8)) ?_ ?_
 ·exact⟨0,⟨Nat.zero_le _,rfl⟩,eE,eE,eE,eE,rfl⟩
 rintro e h ⟨k,⟨hk,hfi⟩,e8,e7,e0,e1,rfl⟩;refine dC [0,1,7,8] ?_;refine sJ4 @e0 @e1 @e7 @e8 ?_;intros;refine gR 0 0 c107r2.eq_1 ?_;intros;refine gC ?_;refine gb (fun ht=>?_) (fun ht=>?_)
 ·have ht:k < l.length:=by have:=Kn ht;omega
  have hw:=fi k c (by omega) hmx;obtain⟨s,hs⟩:∃ s,l[k]?=some s:=⟨l[k],getElem?_eq_getElem (by omega)⟩;rw[ng hs]at hfi;intros;refine gN ?_;intros;refine gR 10 11 c107r3.eq_1 ?_;intros;refine gR 11 16 c107r4.eq_1 ?_;refine hA.x_ld hs rfl rfl ?_;rintro a1 ha1 cs hse;have hcl:=hf s cs (mem_of_getElem? hs) hse;obtain⟨B,d,B2,d2,rfl,-⟩:=hse;unfold fF at hcl ⊢;refine sI ?_
  refine .inl ⟨f,cap,rfl,?_⟩;refine fK (hcl _ _) ?_;intros;refine gC ?_;refine gb (fun k1=>?_) (fun k1=>?_)
  ·rw[if_pos k1]at hfi;intros;refine gR 17 18 c107r5.eq_1 ?_;intros;refine rW ?_;rw[hfi]
  ·rw[if_neg (by rw[k1];simp)]at hfi;intros;refine gN ?_;intros;refine gR2 18 19 c107r6.eq_1 @hw ?_;intros;refine dy ?_;refine ej ⟨⟨k+1,⟨by omega,hfi⟩,eE,eE,eE,eE,rfl⟩,?_⟩;refine sI ?_;omega
 ·have ht:k=l.length:=by have:=Ko ht;omega
  subst ht;rw[List.drop_length,fS]at hfi;refine dS ?_;refine sI ?_;intros;refine gR 0 0 c107r7.eq_1 ?_;intros;refine rW ?_;rw[hfi]
theorem oZ(l:List Rp)(p:Rp→Bool)(f:Nat)(cap:Array Value)(v:Value)(G:J5)(hl:SlV G (RE G) 7 v l)(hf:∀ s cs,s∈l→RE G s cs→FnS Tryz.prog f (#[.agg cs.toArray]++cap) G (.bool (p s))):
  FnS Tryz.prog 54 #[v,.func (.func f) #[] cap] G (.bool (l.any p)):=by
 refine F54.fnS (by simp) (dI ?_);unfold c54;intros;refine gR 0 0 c54r0.eq_1 ?_;intros;refine gR 5 9 c54r1.eq_1 ?_;refine fK (uw l p f cap _ _ hl hf _ _) ?_;intros;refine rW ?_;rw[← jB p l 0]
theorem xN(r:Rp)(n:Int)(cs:J6)(G:J5)(hr:RE G r cs):FnS Tryz.prog 106 #[.agg cs.toArray,.int .i64 n] G (.int .i64 (IntKind.i64.wrap (r.id - n))):=by
 obtain⟨A,c,B,d,rfl,-⟩:=hr;refine F106.fnS (by simp) (dI ?_);unfold c106 fF;intros;refine gR 0 0 c106r0.eq_1 ?_;intros;refine gR 6 9 c106r1.eq_1 ?_;intros;refine rV ?_;simp only[push_cast,Nat.reduceBEq]
theorem He{a b:Int}(ha:I64 a)(hb:I64 b):IntKind.i64.wrap (a - b)=0↔a=b:=by
 unfold I64 at ha hb;rw[IntKind.wrap_i64];omega
theorem rh(l:List Rp)(n:Int)(v:Value)(G:J5)(hl:SlV G (RE G) 7 v l)(hn:I64 n)(hs:(fE l).Pairwise (· < ·))(hid:∀ r∈l,idI r.id=true):
  FnE Tryz.prog 105 #[v,.int .i64 n,.func (.func 106) #[] #[]] G (fun r=>∃ j:Nat,r=.tuple #[.int .i64 j,.bool (atR l n).isSome]∧j≤l.length∧∀ k,atR l n=some k→j=k):=by
 obtain⟨A,c,rfl,hc,hmx,hA⟩:=hl;have hmono:∀ (i k:Nat) (x y:Rp),i < k→l[i]?=some x→l[k]?=some y→x.id < y.id:=fun i k x y hik hx hy=>by
  obtain⟨g1,e1⟩:=List.getElem?_eq_some_iff.1 hx;obtain⟨g2,e2⟩:=List.getElem?_eq_some_iff.1 hy;rw[List.pairwise_iff_getElem]at hs;have:=hs i k (by simpa [fE]using g1) (by simpa [fE]using g2) hik;simpa [fE,e1,e2]using this
 have hrng:∀ (k:Nat) (x:Rp),l[k]?=some x→0≤x.id∧x.id≤1048576:=fun k x hx=>by
  have:=hid x (mem_of_getElem? hx);simpa [idI]using this
 refine F105.fnE (by simp) (dI ?_);unfold c105;intros;refine gR 0 0 c105r0.eq_1 ?_;intros;refine gR 12 14 c105r1.eq_1 ?_;intros;refine gR 14 15 c105r2.eq_1 ?_;intros;refine dy ?_
 refine dV (fun e h=>∃ i j:Nat,(i≤j∧j≤l.length)∧(∀ k,atR l n=some k→i≤k∧k≤j)∧e 9=.int .i64 i∧e 10=.int .i64 j∧e 8=.int .i64 l.length∧e 0=.slice A l.length c∧e 1=.int .i64 n∧e 2=.func (.func 106) #[] #[]∧h=⟨G,[],[]⟩) (fun e h=>iv (e 10) - iv (e 9)) ?_ ?_
 ·refine⟨0,l.length,⟨by omega,by omega⟩,fun k hk=>?_,eE,eE,eE,eE,eE,eE,rfl⟩;obtain⟨x,hx,-⟩:=g9 hk;have:=(List.getElem?_eq_some_iff.1 hx).1;omega
 rintro e h ⟨i,j,⟨hij,hjn⟩,hat,e9,e10,e8,e0,e1,e2,rfl⟩;refine dC [0,1,2,8,9,10] ?_;refine sJ6 @e0 @e1 @e2 @e8 @e9 @e10 ?_;intros;refine gR 15 17 c105r3.eq_1 ?_;intros;refine gC ?_;refine gb (fun ht=>?_) (fun ht=>?_)
 ·have hlt:i < j:=by simpa using ht
  unfold maxLen at hmx;obtain⟨m,hm1,hm2,hh,hv⟩:∃ m:Nat,i≤m∧m < j∧ff .shr (.int .u64 (IntKind.u64.wrap (IntKind.i64.wrap ((i:Int)+j)))) (.int .u64 1)=some (.int .u64 (m:Int))∧IntKind.i64.wrap (m:Int)=m :=
   ⟨(i+j) / 2,by omega,by omega,Gy i j (by omega),cvh i j (by omega)⟩
  obtain⟨x,hx⟩:∃ x,l[m]?=some x:=⟨l[m],getElem?_eq_getElem (by omega)⟩;intros;refine gN ?_;intros;refine gr 18 24 ?_;refine sJ3 c105r4.eq_1 @hh @hv ?_;intros;refine gR 24 31 c105r5.eq_1 ?_;refine hA.x_ld hx rfl rfl ?_;rintro a1 ha1 cs hse;have hcl:=xN x n cs G hse;obtain⟨B,d,B2,d2,rfl,-⟩:=hse;unfold fF at hcl ⊢;refine sI ?_;refine .inl ⟨106,#[],rfl,?_⟩;refine fK (hcl _ _) ?_
  have hxr:=hrng m x hx;have hk:∀ k,atR l n=some k→0≤n∧n≤1048576∧IntKind.i64.wrap (x.id - n)=x.id - n∧((x.id < n∧m < k)∨(n≤x.id∧k≤m)):=fun k hk=>by
   obtain⟨y,hy,hyn⟩:=g9 hk;have hyr:=hrng k y hy;refine⟨by omega,by omega,by rw[dX] <;> omega,?_⟩;rcases Nat.lt_trichotomy m k with h | h | h
   ·have:=hmono m k x y h hx hy;omega
   ·subst h;rw[hx]at hy;cases hy;omega
   ·have:=hmono k m y x h hy hx;omega
  intros;refine gC ?_;refine gbD (fun h3=>?_) (fun h3=>?_)
  ·have hw:IntKind.i64.wrap ((m:Int)+1)=(m:Int)+1:=by rw[dX] <;> omega
   intros;refine gR2 32 34 c105r6.eq_1 @hw ?_;intros;refine dy ?_;refine ej ⟨⟨m+1,j,⟨by omega,by omega⟩,fun k hkk=>?_,(eJ @hw),eE,eE,eE,eE,eE,rfl⟩,?_⟩
   ·have:=hk k hkk;have:=hat k hkk;omega
   refine sJ @hw ?_;omega
  ·intros;refine gR 34 35 c105r7.eq_1 ?_;intros;refine dy ?_;refine ej ⟨⟨i,m,⟨by omega,by omega⟩,fun k hkk=>?_,eE,eE,eE,eE,eE,eE,rfl⟩,?_⟩
   ·have:=hk k hkk;have:=hat k hkk;omega
   refine sI ?_;omega
 ·have hij':i=j:=by simp at ht;omega
  subst hij';refine dS ?_;refine sI ?_;have hin:=hjn;have hat:∀ k,atR l n=some k→i=k:=fun k hk=>by have:=hat k hk;omega
  intros;refine gR 35 49 c105r8.eq_1 ?_;refine gd (fun ht=>?_) (fun ht=>?_)
  ·have hlt:i < l.length:=by simpa using ht
   obtain⟨x,hx⟩:∃ x,l[i]?=some x:=⟨l[i],getElem?_eq_getElem (by omega)⟩;refine sI ?_;refine hA.x_ld hx rfl rfl ?_;rintro a1 ha1 cs hse;have hcl:=xN x n cs G hse;obtain⟨B,d,B2,d2,rfl,-,-,-,hxi,-⟩:=hse;unfold fF at hcl ⊢;refine sI ?_;refine .inl ⟨106,#[],rfl,?_⟩;refine fK (hcl _ _) ?_;intros;refine rW ?_;refine⟨i,?_,hin,hat⟩;have:decide (IntKind.i64.wrap (x.id - n)=0)=(atR l n).isSome:=by
    rw[Bool.eq_iff_iff,decide_eq_true_iff,He hxi hn];constructor
    ·intro he;rw[← he,m7 hs hx];rfl
    ·intro he;obtain⟨k,hk⟩:=Option.isSome_iff_exists.1 he;have:=hat k hk;subst this;obtain⟨y,hy,hyn⟩:=g9 hk;rw[hx]at hy;cases hy;exact hyn
   rw[this]
  ·have hlt:i=l.length:=by have:=Ko ht;omega
   refine sI ?_;intros;refine rW ?_;refine⟨i,?_,hin,hat⟩;cases hk:atR l n with
   | none=>rfl
   | some k =>
    obtain⟨y,hy,hyn⟩:=g9 hk;have:=(List.getElem?_eq_some_iff.1 hy).1;have:=hat k hk;omega
end Go.Proofs.YtpmofpekcbghnaaGreat
namespace Go.Proofs.YtpmofpekcbghnaaGreat
open Go Go.Kx
open List (getElem?_eq_getElem mem_of_getElem? length_append append_nil append_assoc length_cons take_length)
theorem F53:Fun Tryz.prog 53 9 v53 c53 o53:=Fun.mkA Tryz.func53 Tryz.ntmps53
theorem F47:Fun Tryz.prog 47 32 v47 c47 o47:=Fun.mkA Tryz.func47 Tryz.ntmps47
theorem F68:Fun Tryz.prog 68 6 v68 c68 o68:=Fun.mkA Tryz.func68 Tryz.ntmps68
theorem F55:Fun Tryz.prog 55 48 v55 c55 o55:=Fun.mkA Tryz.func55 Tryz.ntmps55
def smR(r:Rp):Prop:=smL r.log.segs∧r.log.segs.length≤1000∧r.eps.length≤1000
theorem De{l:List Sg}(h:smL l):∀ p,smL (gj p l):=by
 induction l with
 | nil=>intro p s hs;cases hs
 | cons x l ih =>
  intro p s hs;rw[gj]at hs;split at hs
  ·rcases List.mem_cons.1 hs with rfl | hs
   ·have:=h x (.head _);simp only[lK,List.length_take];omega
   ·exact ih (fun y hy=>h y (.tail _ hy)) _ s hs
  ·cases hs
theorem Ba{l:Lg}(h:smL l.segs)(hm:l.segs.length≤1000):smL (ib l).1.segs∧(ib l).1.segs.length≤1000:=by
 unfold ib;split
 ·exact⟨De h _,by have:=(rJ l.segs none).1;show(gj none l.segs).length≤_;omega⟩
 ·exact⟨fun s hs=>absurd hs (by simp[gy]),by simp[gy]⟩
theorem vc(n:Int)(G:J5):FnS Tryz.prog 53 #[.int .i64 n] G (.bool (idI n)):=by
 refine F53.fnS (by simp) (dI ?_);unfold c53;intros;refine gR 0 0 c53r0.eq_1 ?_;intros;refine gR 3 9 c53r1.eq_1 ?_;refine gdD (fun h=>?_) (fun h=>?_)
 ·refine sI ?_;intros;refine rW ?_;rw[idI,decide_eq_true (show 0≤n from h),Bool.true_and]
 ·refine sI ?_;intros;refine rW ?_;rw[idI,decide_eq_false (show ¬ 0≤n from h),Bool.false_and]
def Je(l:Ki)(k:Nat):Prop:=∀ i x,i < k→l[i]?=some x→idI x=true∧∀ p,0 < i→l[i - 1]?=some p→p < x
theorem sB{l:Ki}:(Je l l.length∧l≠[])↔fu l:=by
 constructor
 ·rintro⟨h,hn⟩;refine⟨hn,fun n hm=>?_,?_⟩
  ·obtain⟨i,hi⟩:=List.getElem?_of_mem hm;exact(h i n (List.getElem?_eq_some_iff.1 hi).1 hi).1
  ·rw[List.pairwise_iff_getElem];intro i j h1 h2 hij;have key:∀ d i:Nat,(h1:i < l.length)→(h2:i+d+1 < l.length)→l[i] < l[i+d+1]:=by
    intro d
    induction d with
    | zero=>exact fun i h1 h2=>(h (i+0+1) _ h2 (getElem?_eq_getElem h2)).2 _ (by omega) (by simp only[Nat.add_zero,Nat.add_sub_cancel];exact getElem?_eq_getElem h1)
    | succ d ih =>
     intro i h1 h2;have h3:=ih i h1 (by omega);have h4:=(h (i+(d+1)+1) _ h2 (getElem?_eq_getElem h2)).2 (l[i+d+1]'(by omega)) (by omega) (by
      rw[show i+(d+1)+1 - 1=i+d+1 by omega]
      exact getElem?_eq_getElem _)
     omega
   have:=key (j - i - 1) i h1 (by omega);have e:i+(j - i - 1)+1=j:=by omega
   simp only[e]at this;exact this
 ·rintro⟨h1,h2,h3⟩;refine⟨fun i x hi hx=>⟨h2 x (mem_of_getElem? hx),fun p hp hpx=>?_⟩,h1⟩;rw[List.pairwise_iff_getElem]at h3;obtain⟨g1,e1⟩:=List.getElem?_eq_some_iff.1 hx;obtain⟨g2,e2⟩:=List.getElem?_eq_some_iff.1 hpx;rw[← e1,← e2];exact h3 _ _ g2 g1 (by omega)
open Classical in
noncomputable def dB(p:Prop):Bool:=decide p
theorem Jg{p:Prop}(h:p):dB p=true:=by simp[dB,h]
theorem I9{p:Prop}(h:¬ p):dB p=false:=by simp[dB,h]
theorem F6{p:Prop}:dB p=true↔p:=by simp[dB]
noncomputable def AM(l:Ki):Bool:=dB (fu l)
theorem tm{l:Ki}(h:fu l):AM l=true:=Jg h
theorem Bk{l:Ki}(h:¬ fu l):AM l=false:=I9 h
theorem oA{l:Ki}:AM l=true↔fu l:=F6
theorem oK(l:Ki)(v:Value)(G:J5)(hl:SlV G IE 1 v l):FnS Tryz.prog 47 #[v] G (.bool (AM l)):=by
 obtain⟨A,c,rfl,hc,hmx,hA⟩:=hl;refine F47.fnS (by simp) (dI ?_);unfold c47;intros;refine gR 0 0 c47r0.eq_1 ?_;intros;refine gR 0 0 c47r1.eq_1 ?_;intros;refine dy ?_;refine dV (fun e h=>∃ k:Nat,(k≤l.length∧Je l k)∧e 7=.int .i64 k∧e 6=.int .i64 l.length∧e 5=.slice A l.length c∧e 0=.slice A l.length c∧h=⟨G,[],[]⟩) (fun e h=>l.length - iv (e 7)) ?_ ?_
 ·exact⟨0,⟨Nat.zero_le _,fun i x hi=>absurd hi (by omega)⟩,eE,eE,eE,eE,rfl⟩
 rintro e h ⟨k,⟨hk,hr⟩,e7,e6,e5,e0,rfl⟩;refine dC [0,5,6,7] ?_;refine sJ4 @e0 @e5 @e6 @e7 ?_;intros;refine gR 0 0 c47r2.eq_1 ?_;intros;refine gC ?_;refine gb (fun ht=>?_) (fun ht=>?_)
 ·have ht:k < l.length:=by have:=Kn ht;omega
  have hw:=fi k c (by omega) hmx;obtain⟨x,hx⟩:∃ s,l[k]?=some s:=⟨l[k],getElem?_eq_getElem (by omega)⟩;have hno:∀ (fr:Kc) (e:Env),¬ (idI x=true∧∀ p,0 < k→l[k - 1]?=some p→p < x)→go none Tryz.prog 32 v47.1 v47.2 (gl o47 fun v h=>v=.bool (AM l)) (Td.s ((SC.reg false c47r5).seq .ret) :: fr) e ⟨G,[],[]⟩:=fun fr e hn=>by
   intros;refine gR 0 0 c47r5.eq_1 ?_;intros;refine rW ?_;rw[Bk fun h=>hn ((sB.2 h).1 k x ht hx)]
  intros;refine gN ?_;intros;refine gR 9 12 c47r3.eq_1 ?_;refine hA.x_l1 hx rfl rfl ?_;rintro a1 ha1 u1 ⟨hu,-⟩;cases hu;refine sI ?_;intros;refine gR 12 27 c47r4.eq_1 ?_;refine fK (vc x _ _ _) ?_;refine gd (fun k1=>?_) (fun k1=>?_)
  ·have k1:idI x=false:=by simpa using k1
   refine sI ?_;intros;refine gC ?_;exact hno _ _ fun h=>by rw[k1]at h;cases h.1
  have k1:idI x=true:=by simpa using k1
  refine sI ?_;refine gd (fun k2=>?_) (fun k2=>?_)
  ·have k2:0 < k:=by have:=Kn k2;omega
   have hw1:IntKind.i64.wrap ((k:Int) - 1)=(k:Int) - 1:=by unfold maxLen at hmx;rw[dX] <;> omega
   obtain⟨p,hp⟩:∃ s,l[k - 1]?=some s:=⟨l[k - 1],getElem?_eq_getElem (by omega)⟩;refine sJ @hw1 ?_;refine hA.x_l1 hp (by omega) rfl ?_;rintro a2 ha2 u2 ⟨hu,-⟩;cases hu;refine sI ?_;intros;refine gC ?_;refine gbD (fun k3=>?_) (fun k3=>?_)
   ·exact hno _ _ fun h=>by have:=h.2 p k2 hp;omega
   intros;refine gN ?_;intros;refine gR2 28 29 c47r6.eq_1 @hw ?_;intros;refine dy ?_;refine ej ⟨⟨k+1,⟨by omega,fun i y hi hy=>?_⟩,eE,eE,eE,eE,rfl⟩,?_⟩
   ·by_cases hik:i=k
    ·subst hik;rw[hx]at hy;cases hy;exact⟨k1,fun q _ hq=>by rw[hp]at hq;cases hq;omega⟩
    ·exact hr i y (by omega) hy
   refine sI ?_;omega
  ·have k2:k=0:=by have:=Ko k2;omega
   refine sI ?_;intros;refine gC ?_;intros;refine gN ?_;intros;refine gR2 28 29 c47r6.eq_1 @hw ?_;intros;refine dy ?_;refine ej ⟨⟨k+1,⟨by omega,fun i y hi hy=>?_⟩,eE,eE,eE,eE,rfl⟩,?_⟩
   ·have hik:i=k:=by omega
    subst hik;rw[hx]at hy;cases hy;exact⟨k1,fun q h0 _=>absurd h0 (by omega)⟩
   refine sI ?_;omega
 ·have ht:k=l.length:=by have:=Ko ht;omega
  subst ht;refine dS ?_;refine sI ?_;intros;refine gR 29 32 c47r7.eq_1 ?_;intros;refine rW ?_;by_cases hn:l=[]
  ·rw[Bk fun h=>h.1 hn,hn];rfl
  ·rw[tm (sB.1 ⟨hr,hn⟩)];have:0 < l.length:=List.length_pos_iff.2 hn;simp;omega
theorem jl(r:Rp)(cs:J6)(G:J5)(hr:RE G r cs)(hb:smL r.log.segs)(hm:r.log.segs.length≤1000000):FnS Tryz.prog 68 #[.agg cs.toArray] G (.int .i64 (ec r.log)):=by
 obtain⟨A,c,B,d,rfl,h1,h2,⟨h3,h4⟩,-⟩:=hr;have hend:=vE r.log (es r.log A c) G ⟨A,c,rfl,h1,h3,h4⟩ hb hm;refine F68.fnS (by simp) (dI ?_);unfold c68 fF;unfold es at hend;intros;refine gR 0 0 c68r0.eq_1 ?_;intros;refine gR 4 6 c68r1.eq_1 ?_;refine fK (hend _ _) ?_;intros;refine rV ?_;simp only[push_cast,Nat.reduceBEq]
noncomputable def ET(r:Rp):Bool:=dB (¬ okR r)
theorem tB{r:Rp}(h:¬ okR r):ET r=true:=Jg h
theorem xM{r:Rp}(h:okR r):ET r=false:=I9 fun k=>k h
theorem Em(r:Rp)(cs:J6)(G:J5)(hr:RE G r cs)(hsm:smR r):FnS Tryz.prog 55 #[.agg cs.toArray] G (.bool (ET r)):=by
 have hr0:=hr;obtain⟨hb,hm,he⟩:=hsm;obtain⟨A,c,B,d,rfl,h1,h2,⟨h3,h4⟩,h5,h6⟩:=hr;have hl:LE G r.log (es r.log A c):=⟨A,c,rfl,h1,h3,h4⟩;have hchk:=l8 r.log _ G hl hb;have hrec:=nU r.log _ G hl hb hm;have hend:=jl r _ G hr0 hb (by omega);refine F55.fnS (by simp) (dI ?_);unfold c55;unfold fF at hend ⊢;unfold es at hchk hrec;intros;refine gR 0 0 c55r0.eq_1 ?_;intros;intros;try refine dx ?_
 have hno:∀ (fr:Kc) (e:Env) (L:J8),¬ okR r→go none Tryz.prog 48 v55.1 v55.2 (gl o55 fun v h=>v=.bool (ET r)) (Td.s ((SC.reg false c55r2).seq .ret) :: fr) e ⟨G,L,[]⟩:=fun fr e L hn=>by
  intros;refine gR 0 0 c55r2.eq_1 ?_;intros;refine rW ?_;rw[tB hn]
 have hcE:=ju r.eps _ G h2;intros;try refine dx ?_
 intros;refine gR 5 23 c55r1.eq_1 ?_;refine fK (vc r.id _ _ _) ?_;refine gd (fun k1=>?_) (fun k1=>?_)
 ·have k1:idI r.id=false:=by simpa using k1
  refine sI ?_;intros;refine gC ?_;exact hno _ _ _ fun h=>by have:=h.1.1;rw[k1]at this;cases this
 have k1:idI r.id=true:=by simpa using k1
 refine sI ?_;refine fK (hcE _ _) ?_;refine gd (fun k2=>?_) (fun k2=>?_)
 ·have k2:=Kn k2;refine sI ?_;intros;refine gC ?_;exact hno _ _ _ fun h=>k2 h.1.2.1
 have k2:gK r.eps=0:=by simpa using k2
 refine sI ?_;refine gdD (fun k3=>?_) (fun k3=>?_)
 ·refine sI ?_;intros;refine gC ?_;exact hno _ _ _ fun h=>by have:=h.1.2.2.1;omega
 refine sI ?_;intros;refine gC ?_;refine gbD (fun k4=>?_) (fun k4=>?_)
 ·exact hno _ _ _ fun h=>by have:=h.1.2.2.2;omega
 intros;refine gN ?_;intros;refine gR 25 26 c55r3.eq_1 ?_;intros;try refine dx ?_
 refine ez (fun e h=>∃ (G':J5) (A':Ka) (c':Nat),(Gle G G'∧LE G' (pr r) (es (pr r) A' c'))∧h=⟨G',[.reg 3 (es (pr r) A' c'),.reg 1 (fF r A c B d)],[]⟩) ?_ ?_
 ·intros;try refine dx ?_
  intros;refine gR 27 28 c55r4.eq_1 ?_;intros;refine gC ?_;refine gb (fun k5=>?_) (fun k5=>?_)
  ·have k5:r.up=false:=by simpa using k5
   have hlr:pr r=(ib r.log).1:=by rw[pr,if_neg (by rw[k5];simp)]
   intros;refine gR 29 34 c55r5.eq_1 ?_;refine(hrec _ _).mono ?_;rintro v h' ⟨G1,rfl,hg1,cs,rfl,hle⟩;have hle0:=hle;obtain⟨A1,c1,rfl,-⟩:=hle;unfold es;refine sI ?_;intros;refine gN ?_;exact ej ⟨G1,A1,c1,⟨hg1,by rw[hlr];exact hle0⟩,by rw[hlr];rfl⟩
  ·have k5:r.up=true:=by simpa using k5
   have hlr:pr r=r.log:=by rw[pr,if_pos k5]
   intros;refine gN ?_;exact ej ⟨G,A,c,⟨.refl G,by rw[hlr];exact hl⟩,by rw[hlr];rfl⟩
 rintro e h ⟨G1,A1,c1,⟨hg1,hle⟩,rfl⟩;refine dC [] ?_;have hls:smL (pr r).segs∧(pr r).segs.length≤1000:=by
  unfold pr;split
  ·exact⟨hb,hm⟩
  ·exact Ba hb hm
 have hchk1:=l8 (pr r) _ G1 hle hls.1;have hend1:=jl r (fF r A c B d) G1 (RE.le hg1 hr0) hb (by omega);unfold es at hchk1;unfold fF at hend1;unfold es fF;intros;intros;try refine dx ?_
 intros;refine dy ?_;refine nP _ Kl (by decide) ?_;refine sJ c55r6.eq_1 ?_;refine fK (hchk1 _ _) ?_;refine gx (fun k5=>?_) (fun k5=>?_)
 ·have k5:=Kn k5;refine sI ?_;intros;refine rW ?_;rw[tB fun h=>k5 h.2.1]
 have k5:fq (pr r)=0:=by simpa using k5
 refine sI ?_;refine gx (fun k6=>?_) (fun k6=>?_)
 ·have k6:r.up=true:=by simpa using k6
  refine sI ?_;refine fK (hend1 _ _) ?_;intros;refine rW ?_;by_cases k7:r.high≤ec r.log
  ·rw[xM ⟨⟨k1,k2,by omega,by omega⟩,k5,fun _=>k7⟩];simp;omega
  ·rw[tB fun h=>k7 (h.2.2 k6)];simp;omega
 ·have k6:r.up=false:=by simpa using k6
  refine sI ?_;intros;refine rW ?_;rw[xM ⟨⟨k1,k2,by omega,by omega⟩,k5,fun h=>by rw[k6]at h;cases h⟩]
end Go.Proofs.YtpmofpekcbghnaaGreat
namespace Go.Proofs.YtpmofpekcbghnaaGreat
open Go Go.Kx
open List (getElem?_eq_getElem mem_of_getElem? length_append append_nil append_assoc length_cons take_length)
theorem F18:Fun Tryz.prog 18 87 v18 c18 o18:=Fun.mkA Tryz.func18 Tryz.ntmps18
theorem F57:Fun Tryz.prog 57 8 v57 c57 o57:=Fun.mkA Tryz.func57 Tryz.ntmps57
def d7(p:Pt)(A:Ka)(c:Nat)(B:Ka)(d:Nat):J6:=[.int .i64 p.epoch,.int .i64 p.leader,.int .i64 p.least,.slice A p.isr.length c,.slice B p.reps.length d]
def qZ(p:Pt):Prop:=I64 p.epoch∧I64 p.leader∧I64 p.least
def PE(G:J5)(p:Pt)(cs:J6):Prop:=∃ A c B d,cs=d7 p A c B d∧SlV G IE 1 (.slice A p.isr.length c) p.isr∧SlV G (RE G) 7 (.slice B p.reps.length d) p.reps∧qZ p
theorem PE.le{G G':J5}(hg:Gle G G'){p:Pt}{cs:J6}(h:PE G p cs):PE G' p cs:=by
 obtain⟨A,c,B,d,h1,h2,h3,h4⟩:=h;exact⟨A,c,B,d,h1,h2.le hg Kp,SlR.le hg h3,h4⟩
def smP(p:Pt):Prop:=(∀ r∈p.reps,smR r)∧p.reps.length≤1000∧p.isr.length≤1000
theorem uL(l:Ki)(n:Int)(b:Nat)(v:Value)(G:J5)(hl:SlV G IE 1 v l)(hb:eZ G ⟨b,0,none⟩=some v):FnS Tryz.prog 57 #[.int .i64 n,.pointer (some ⟨b,0,none⟩)] G (.bool (decide (n∉l))):=by
 have hd:(!decide (n∈l))=decide (n∉l):=by simp
 refine F57.fnS (by simp) (dI ?_);unfold c57;intros;refine gR 0 0 c57r0.eq_1 ?_;intros;refine gR 4 8 c57r1.eq_1 ?_;refine⟨_,⟨_,rfl,.g hb⟩,?_⟩;refine sI ?_;refine fK (ka l n _ _ hl _ _) ?_;intros;refine rW ?_;rw[hd]
theorem mH{p:Pt}(h:¬ okP p):fy p=1:=by unfold fy;rw[if_neg h]
theorem jq{p:Pt}(h:okP p):fy p=0:=by unfold fy;rw[if_pos h]
theorem ko(p:Pt)(cs:J6)(G:J5)(hp:PE G p cs)(hsm:smP p):FnS Tryz.prog 18 #[.agg cs.toArray] G (.int .i64 (fy p)):=by
 obtain⟨A,c,B,d,rfl,hI,hR,hi1,hi2,hi3⟩:=hp;obtain⟨hs1,hs2,hs3⟩:=hsm;have hR0:=hR;obtain⟨B0,d0,he,hd0,hmx,hA⟩:=hR;cases he;refine F18.fnS (by simp) (dI ?_);unfold c18 d7;intros;refine gR 0 0 c18r0.eq_1 ?_;intros;refine gR 0 0 c18r1.eq_1 ?_;intro b3 hb3;refine sI ?_;intros;refine dA (dW none 3 1) ?_;intros;try refine dx ?_
 refine ez (fun e h=>∃ (u:Value) (zc:J6),Cells IE 1 (fE p.reps) zc∧e 3=.pointer (some ⟨b3,0,none⟩)∧h=⟨G,[.row u 3 1 p.reps.length zc,.blk b3 [u],.reg 1 (d7 p A c B d)],[]⟩) ?_ ?_
 ·intros;try refine dx ?_
  intros;refine gR 0 0 c18r2.eq_1 ?_;intros;refine dy ?_;refine dV (fun e h=>∃ (k:Nat) (u:Value) (zc:J6),(k≤p.reps.length∧Cells IE 1 (fE (p.reps.take k)) zc)∧e 10=.int .i64 k∧e 9=.int .i64 p.reps.length∧e 8=.slice B p.reps.length d∧e 3=.pointer (some ⟨b3,0,none⟩)∧h=⟨G,[.row u 3 1 (fE (p.reps.take k)).length zc,.blk b3 [u],.reg 1 (d7 p A c B d)],[]⟩) (fun e h=>p.reps.length - iv (e 10)) ?_ ?_
  ·exact⟨0,.slice none 0 0,[],⟨Nat.zero_le _,.nil⟩,eE,eE,eE,eE,rfl⟩
  rintro e h ⟨k,u,zc,⟨hk,hzc⟩,e10,e9,e8,e3,rfl⟩;refine dC [3,8,9,10] ?_;refine sJ4 @e3 @e8 @e9 @e10 ?_;intros;refine gR 0 0 c18r3.eq_1 ?_;intros;refine gC ?_;refine gb (fun ht=>?_) (fun ht=>?_)
  ·have ht:k < p.reps.length:=by have:=Kn ht;omega
   have hw:=fi k d (by omega) hmx;obtain⟨r,hr⟩:∃ s,p.reps[k]?=some s:=⟨p.reps[k],getElem?_eq_getElem (by omega)⟩;have htk:fE (p.reps.take (k+1))=fE (p.reps.take k)++[r.id]:=by rw[List.take_add_one,hr];simp[fE]
   have hkl:(fE (p.reps.take k)).length=k:=by simp[fE];omega
   intros;refine gN ?_;intros;refine gR 12 14 c18r4.eq_1 ?_;refine hA.x_ld hr rfl rfl ?_;rintro a1 ha1 cs hse;have hie:IE r.id [.int .i64 r.id]:=by
    obtain⟨_,_,_,_,_,_,_,_,h,_⟩:=hse;exact⟨rfl,h⟩
   obtain⟨B1,d1,B2,d2,rfl,-⟩:=hse;unfold fF;refine sI ?_;intros;refine gR 14 19 c18r5.eq_1 ?_;refine⟨_,dH (.tail _ (.tail _ (.head _))) rfl,?_⟩;refine sI ?_;intro bk hbk;refine yu (L1:=[_]) (L2:=[_,_]) (E:=IE) (x:=r.id) rfl hie rfl (by simp[Value.oneCell']) hzc (by omega) (by omega) fun A' c' zc' hzc'=>?_
   rw[← htk]at hzc' ⊢;refine sI ?_;refine dM [_,_,_] [_] rfl (by simp) ⟨rfl,rfl⟩ ?_;refine sI ?_;intros;refine gN ?_;refine dA (dE (.cons _ (.cons _ Kl))) ?_;intros;refine gR2 19 20 c18r6.eq_1 @hw ?_;intros;refine dy ?_;refine ej ⟨⟨k+1,_,zc',⟨by omega,hzc'⟩,eE,eE,eE,eE,rfl⟩,?_⟩;refine sI ?_;omega
  ·have ht:k=p.reps.length:=by have:=Ko ht;omega
   subst ht;rw[take_length]at hzc ⊢;have hln:(fE p.reps).length=p.reps.length:=by simp[fE]
   rw[hln];refine dS ?_;refine sI ?_;intros;refine gN ?_;exact ej ⟨u,zc,hzc,eE,rfl⟩
 rintro e h ⟨u,zc,hzc,e3,rfl⟩;refine dC [3] ?_;refine sJ @e3 ?_;intros;try refine dx ?_
 refine ei (dT [] _ (by decide) hzc) ?_;rintro h' ⟨G1,rfl,hg1,hv1⟩;refine ei (eg [] _) ?_;rintro h' ⟨G2,rfl,hg2,f3⟩;have hg02:=hg1.trans hg2;have f3:=f3 0 _ rfl;rw[eA]at f3;have hids:=hv1.le (E':=IE) hg2 Kp;have hI2:=hI.le (E':=IE) hg02 Kp;have hR2:=SlR.le hg02 hR0;have hln:(fE p.reps).length=p.reps.length:=by simp[fE]
 obtain⟨A2,c2,rfl,hc2,hm2,hA2⟩:=hids;have hids:SlV G2 IE 1 (.slice A2 (fE p.reps).length c2) (fE p.reps):=⟨A2,c2,rfl,hc2,hm2,hA2⟩;clear hv1 hzc hA2;have hL3:∀ L D,LdN ⟨G2,L,D⟩ (.pointer (some ⟨b3,0,none⟩)) none (.slice A2 (fE p.reps).length c2):=fun L D=>⟨_,rfl,.g f3⟩
 have hodd:=oZ p.reps ET 55 #[] _ G2 hR2 fun r cs hm hr=>Em r cs G2 hr (hs1 r hm)
 have hnin:=ph p.isr (fun n=>decide (n∉fE p.reps)) 57 #[.pointer (some ⟨b3,0,none⟩)] _ G2 hI2 fun n hm hn=>uL (fE p.reps) n b3 _ G2 hids f3
 unfold d7;have hno:∀ (fr:Kc) (e:Env) (L:J8),¬ okP p→go none Tryz.prog 87 v18.1 v18.2 (gl o18 fun v h=>v=.int .i64 (fy p)) (Td.s ((SC.reg false c18r8).seq .ret) :: fr) e ⟨G2,L,[]⟩:=fun fr e L hn=>by
  intros;refine gR 0 0 c18r8.eq_1 ?_;intros;refine rW ?_;rw[mH hn]
 intros;try refine dx ?_
 intros;refine gR 21 50 c18r7.eq_1 ?_;refine fK (vc p.epoch _ _ _) ?_;refine gd (fun k1=>?_) (fun k1=>?_)
 ·have k1:idI p.epoch=false:=by simpa using k1
  refine sI ?_;intros;refine gC ?_;exact hno _ _ _ fun h=>by have:=h.1.1;rw[k1]at this;cases this
 have k1:idI p.epoch=true:=by simpa using k1
 refine sI ?_;refine⟨_,hL3 _ _,?_⟩;refine sI ?_;refine fK (oK _ _ _ hids _ _) ?_;refine gd (fun k2=>?_) (fun k2=>?_)
 ·have k2:AM (fE p.reps)=false:=by simpa using k2
  refine sI ?_;intros;refine gC ?_;exact hno _ _ _ fun h=>by have:=tm h.1.2.1;rw[k2]at this;cases this
 have k2:fu (fE p.reps):=oA.1 (by simpa using k2);refine sI ?_;refine⟨_,hL3 _ _,?_⟩;refine sJ @hln ?_;refine gdD (fun k3=>?_) (fun k3=>?_)
 ·refine sI ?_;intros;refine gC ?_;exact hno _ _ _ fun h=>by have:=h.1.2.2.1;omega
 refine sI ?_;refine gdD (fun k4=>?_) (fun k4=>?_)
 ·refine sI ?_;intros;refine gC ?_;exact hno _ _ _ fun h=>by have:=h.1.2.2.2.1;omega
 refine sI ?_;refine⟨_,hL3 _ _,?_⟩;refine sJ @hln ?_;refine gdD (fun k5=>?_) (fun k5=>?_)
 ·refine sI ?_;intros;refine gC ?_;exact hno _ _ _ fun h=>by have:=h.1.2.2.2.1;omega
 refine sI ?_;refine fK (hodd _ _) ?_;intros;refine gC ?_;refine gb (fun k6=>?_) (fun k6=>?_)
 ·obtain⟨r,hr,ho⟩:=List.any_eq_true.1 k6;exact hno _ _ _ fun h=>by rw[xM (h.1.2.2.2.2 r hr)]at ho;cases ho
 have k6:∀ r∈p.reps,okR r:=fun r hr=>Classical.byContradiction fun hn=>by
  rw[List.any_eq_false]at k6;exact k6 r hr (tB hn)
 have hp1:idI p.epoch=true∧fu (fE p.reps)∧p.reps.length≤5∧(1≤p.least∧p.least≤(p.reps.length:Int))∧∀ r∈p.reps,okR r:=⟨k1,k2,by omega,⟨by omega,by omega⟩,k6⟩;clear hno;intros;refine gN ?_;intros;try refine dx ?_
 have hno:∀ (fr:Kc) (e:Env) (L:J8),¬ okP p→go none Tryz.prog 87 v18.1 v18.2 (gl o18 fun v h=>v=.int .i64 (fy p)) (Td.s ((SC.reg false c18r10).seq .ret) :: fr) e ⟨G2,L,[]⟩:=fun fr e L hn=>by
  intros;refine gR 0 0 c18r10.eq_1 ?_;intros;refine rW ?_;rw[mH hn]
 intros;try refine dx ?_
 intros;refine gR 52 60 c18r9.eq_1 ?_;refine fK (oK _ _ _ hI2 _ _) ?_;refine gd (fun k7=>?_) (fun k7=>?_)
 ·have k7:AM p.isr=false:=by simpa using k7
  refine sI ?_;intros;refine gC ?_;exact hno _ _ _ fun h=>by have:=tm h.2.1.1;rw[k7]at this;cases this
 have k7:fu p.isr:=oA.1 (by simpa using k7);refine sI ?_;refine fK (hnin _ _) ?_;intros;refine gC ?_;refine gb (fun k8=>?_) (fun k8=>?_)
 ·obtain⟨n,hn,ho⟩:=List.any_eq_true.1 k8;exact hno _ _ _ fun h=>(Kn ho) (h.2.1.2 n hn)
 have k8:∀ n∈p.isr,n∈fE p.reps:=fun n hn=>Classical.byContradiction fun hh=>by
  rw[List.any_eq_false]at k8;exact k8 n hn (decide_eq_true hh)
 clear hno;intros;refine gN ?_;intros;try refine dx ?_
 intros;try refine dx ?_
 intros;refine gR 62 63 c18r11.eq_1 ?_;intros;refine gC ?_;refine gbD (fun k9=>?_) (fun k9=>?_)
 ·intros;refine gR 0 0 c18r12.eq_1 ?_;intros;refine rW ?_;rw[jq ⟨hp1,⟨k7,k8⟩,.inl k9⟩]
 intros;refine gN ?_;intros;refine gR 64 68 c18r13.eq_1 ?_;refine⟨_,hL3 _ _,?_⟩;refine sI ?_;refine fK (qE _ p.leader _ _ hids _ _) ?_;have hno:∀ (fr:Kc) (e:Env) (L:J8),¬ okP p→go none Tryz.prog 87 v18.1 v18.2 (gl o18 fun v h=>v=.int .i64 (fy p)) (Td.s ((SC.reg false c18r15).seq .ret) :: fr) e ⟨G2,L,[]⟩:=fun fr e L hn=>by
  intros;refine gR 0 0 c18r15.eq_1 ?_;intros;refine rW ?_;rw[mH hn]
 intros;try refine dx ?_
 rcases kO (fun y=>decide (p.leader=y)) (fE p.reps) 0 with⟨q1,q2⟩ | ⟨k,y,q1,q2,q3,-⟩
 ·rw[q1];have hd:decide ((-1:Int) < 0)=true:=by decide
  intros;refine gR2 68 86 c18r14.eq_1 @hd ?_;intros;refine gC ?_;refine hno _ _ _ fun h=>?_
  rcases h.2.2 with h | ⟨⟨r,hr,he,-⟩,-⟩
  ·exact k9 h
  ·have:=Ko (q2 r.id (List.mem_map.2 ⟨r,hr,rfl⟩));exact this he.symm
 rw[q1,Nat.zero_add];have q3:=Kn q3;subst q3;obtain⟨r,hr,hre⟩:∃ r,p.reps[k]?=some r∧r.id=p.leader:=by
  rw[fE,List.getElem?_map,Option.map_eq_some_iff]at q2;exact q2
 have hkl:=(List.getElem?_eq_some_iff.1 hr).1;obtain⟨A5,c5,he5,_,_,hA5⟩:=hR2;cases he5;have hd:decide ((k:Int) < 0)=false:=by simp
 intros;refine gR2 68 86 c18r14.eq_1 @hd ?_;refine hA5.x_lf hr rfl rfl (fun cs hse=>by obtain⟨_,_,_,_,rfl,-⟩:=hse;rfl) ?_;rintro a6 ha6;refine sI ?_;refine gd (fun k10=>?_) (fun k10=>?_)
 ·have k10:r.up=false:=by simpa using k10
  refine sI ?_;intros;refine gC ?_;refine hno _ _ _ fun h=>?_
  rcases h.2.2 with h | ⟨⟨r',hr',he,hu⟩,-⟩
  ·exact k9 h
  ·obtain⟨j,hj⟩:=List.getElem?_of_mem hr';have e1:=m7 k2.2.2 hr;have e2:=m7 k2.2.2 hj;rw[he,← hre,e1]at e2;cases e2;rw[hr]at hj;cases hj;rw[k10]at hu;cases hu
 have k10:r.up=true:=by simpa using k10
 refine sI ?_;refine fK (ka _ p.leader _ _ hI2 _ _) ?_;intros;refine gC ?_;refine gb (fun k11=>?_) (fun k11=>?_)
 ·have k11:p.leader∉p.isr:=by simpa using k11
  refine hno _ _ _ fun h=>?_
  rcases h.2.2 with h | h
  ·exact k9 h
  ·exact k11 h.2
 have k11:p.leader∈p.isr:=by simpa using k11
 intros;refine gN ?_;intros;refine gR 0 0 c18r16.eq_1 ?_;intros;refine rW ?_;rw[jq ⟨hp1,⟨k7,k8⟩,.inr ⟨⟨r,mem_of_getElem? hr,hre,k10⟩,k11⟩⟩]
end Go.Proofs.YtpmofpekcbghnaaGreat
namespace Go.Proofs.YtpmofpekcbghnaaGreat
open Go Go.Kx Go.RowKit
open List (getElem?_eq_getElem mem_of_getElem? length_append append_nil append_assoc length_cons take_length)
theorem wP{P:Program}{W:World}{t:TypeId}{fs:Array Field}(ht:P.underlying t=some (.struct fs)){k:Nat}(hC:P.cellsOf t=k){H:Type}{enc:TypeId × Value→H}{fuel:Nat}{cs:J6}{x:DataW H × List MemPlace}
  (hx:DataW.trod enc P W 0 (fun _=>true) true fuel t cs=some x):cs.length=k∧∀ (i:Nat) (f:Field),fs[i]?=some f→∀ o m,f.offset=o→P.cellsOf f.type=m→∃ n y,DataW.trod enc P W 0 (fun _=>true) true n f.type ((cs.drop o).take m)=some y:=by
 obtain⟨ys,n,_,_,hlen,hyl,hf⟩:=DataW.trod_struct ht hx;rw[hC]at hlen;refine⟨hlen,fun i f hi o m ho hm=>?_⟩;subst ho hm;have h1:=hf i f hi;have hil:i < fs.size:=(Array.getElem?_eq_some_iff.1 hi).1;have hys:ys[i]?=some (ys[i]'(by omega)):=getElem?_eq_getElem (by omega);exact⟨n,_,h1.trans hys⟩
end Go.Proofs.YtpmofpekcbghnaaGreat

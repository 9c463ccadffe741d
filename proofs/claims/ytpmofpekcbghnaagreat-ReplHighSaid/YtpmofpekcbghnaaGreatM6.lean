/- Parts of a proof, 9 texts in one file. No condition. -/
import Derived.Test.YtpmofpekcbghnaaGreatM1
import Derived.Test.YtpmofpekcbghnaaGreatM2
import Derived.Test.YtpmofpekcbghnaaGreatM3
import Derived.Test.YtpmofpekcbghnaaGreatM4
import Derived.Test.YtpmofpekcbghnaaGreatM5
set_option linter.unusedSimpArgs false
set_option linter.unusedVariables false
namespace Go.Proofs.YtpmofpekcbghnaaGreat
open Go Go.Kx
theorem F124:Fun Tryz.prog 124 12 v124 c124 o124:=Fun.mkA Tryz.func124 Tryz.ntmps124
theorem F108:Fun Tryz.prog 108 47 v108 c108 o108:=Fun.mkA Tryz.func108 Tryz.ntmps108
theorem F125:Fun Tryz.prog 125 8 v125 c125 o125:=Fun.mkA Tryz.func125 Tryz.ntmps125
theorem F70:Fun Tryz.prog 70 77 v70 c70 o70:=Fun.mkA Tryz.func70 Tryz.ntmps70
theorem ke(a b:Int)(G:Nat→Option Obj):FnS Tryz.prog 124 #[.int .i64 a,.int .i64 b] G (.bool (decide (0≤a) && decide (a≤b))):=by
 refine F124.fnS (by simp) (dF ?_);unfold c124;intros;refine gr 0 0 ?_;refine sJ c124r0.eq_1 ?_;intros;refine gr 5 12 ?_;refine sJ c124r1.eq_1 ?_;refine gd (fun hp=>?_) (fun hp=>?_) <;> (refine sI ?_) <;> ((intros;try refine du ?_)) <;> (intros;refine rV ?_;simp only[push_cast,Nat.reduceBEq]) <;> simp[hp]
abbrev Ep:=Int × Int
def EpE(x:Ep)(cs:List Value):Prop:=cs=[.int .i64 x.1,.int .i64 x.2]∧I64 x.1∧I64 x.2
abbrev SEp(G:Nat→Option Obj)(v:Value)(xs:List Ep):Prop:=SlV G EpE 2 v xs
def okE(x:Ep):Bool:=(decide (0≤x.1) && decide (x.1≤1048576)) && (decide (0≤x.2) && decide (x.2≤1099511627776))
def Chk(l:List Ep)(k:Nat):Prop:=∀ i x,i < k→l[i]?=some x→okE x=true∧∀ p,0 < i→l[i - 1]?=some p→p.1 < x.1∧p.2 < x.2
open Classical in
noncomputable def gQ(l:List Ep):Int:=if Chk l l.length then 0 else 1
theorem sG{l:List Ep}{k:Nat}{x:Ep}(h:Chk l k)(hx:l[k]?=some x)(h1:okE x=true)(h2:∀ p,0 < k→l[k - 1]?=some p→p.1 < x.1∧p.2 < x.2):Chk l (k+1):=fun i y hi hy=>by
 by_cases hik:i=k
 ·subst hik;rw[hx]at hy;cases hy;exact⟨h1,h2⟩
 ·exact h i y (by omega) hy
theorem ja(l:List Ep)(v:Value)(G:Nat→Option Obj)(hl:SEp G v l):FnS Tryz.prog 108 #[v] G (.int .i64 (gQ l)):=by
 obtain⟨A,c,rfl,hc,hm,hA⟩:=hl;refine F108.fnS (by simp) (dF ?_);unfold c108;intros;refine gr 0 0 ?_;refine sJ c108r0.eq_1 ?_;intros;refine gr 0 0 ?_;refine sJ c108r1.eq_1 ?_
 (intros;try refine du ?_)
 refine dW (fun e h=>∃ k:Nat,(k≤l.length∧Chk l k)∧e 7=.int .i64 k∧e 6=.int .i64 l.length∧e 5=.slice A l.length c∧e 0=.slice A l.length c∧e 2=.int .i64 0∧h.G=G∧h.D=[]) (fun e h=>l.length - iv (e 7)) ?_ ?_
 ·exact⟨0,⟨Nat.zero_le _,fun i x hi=>absurd hi (by omega)⟩,eE,eE,eE,eE,eE,rfl,rfl⟩
 ·rintro e ⟨G',L,D⟩ ⟨k,⟨hk,hch⟩,e7,e6,e5,e0,e2,hG,hD⟩;dsimp only at hG hD;subst hG hD;refine dx (h':=⟨G',[],[]⟩) (dD (List.nil_sublist _)) ?_;refine dz [0,2,5,6,7] ?_;refine sJ5 @e0 @e2 @e5 @e6 @e7 ?_;intros;refine gr 0 0 ?_;refine sJ c108r2.eq_1 ?_;intros;refine gc ?_;refine sI ?_;refine gb (fun ht=>?_) (fun ht=>?_)
  ·have hkl:k < l.length:=by simpa using ht
   obtain⟨a,cs,rfl,⟨rfl,i1,i2⟩,_,hld,hfl⟩:=hA.at_ (List.getElem?_eq_getElem hkl) [] [];generalize hx:l[k]=x at *;have hx':l[k]?=some x:=by rw[List.getElem?_eq_getElem hkl,hx]
   intros;refine gr 9 12 ?_;refine sJ c108r3.eq_1 ?_;refine⟨by omega,a,rfl,_,hld,?_⟩;refine sI ?_;intros;refine gr 13 21 ?_;refine sJ c108r4.eq_1 ?_;refine(ke .. |>.mono ?_)
   rintro v h' ⟨rfl,rfl⟩;refine sI ?_;refine gd (fun h1=>?_) (fun h1=>?_)
   ·refine sI ?_;intros;refine gc ?_;refine sI ?_;intros;refine gr 0 0 ?_;refine sJ c108r5.eq_1 ?_;intros;refine rV ?_;simp only[push_cast,Nat.reduceBEq];rw[gQ,if_neg];intro hc2;have:=(hc2 k x hkl hx').1;simp[okE]at this h1;omega
   ·refine sI ?_;refine(ke .. |>.mono ?_)
    rintro v h' ⟨rfl,rfl⟩;refine sI ?_;intros;refine gc ?_;refine sI ?_;simp at h1;refine gb (fun h2=>?_) (fun h2=>?_)
    ·intros;refine gr 0 0 ?_;refine sJ c108r5.eq_1 ?_;intros;refine rV ?_;simp only[push_cast,Nat.reduceBEq];rw[gQ,if_neg];intro hc2;have:=(hc2 k x hkl hx').1;simp[okE]at this h2;omega
    ·have hok:okE x=true:=by simp at h2;simp[okE];omega
     (intros;try refine du ?_);refine xM 22 45 (by decide) ?_;refine sJ c108r6.eq_1 ?_
     refine gq (fun h3=>?_) (fun h3=>?_)
     ·refine sI ?_;obtain⟨j,rfl⟩:∃ j,k=j+1:=⟨k - 1,by simp at h3;omega⟩;have hw:IntKind.i64.wrap ((j:Int)+1 - 1)=j:=by have:=hm;unfold maxLen at this;rw[dU] <;> omega
      obtain⟨p,hp⟩:∃ p,l[j]?=some p:=⟨l[j],List.getElem?_eq_getElem (by omega)⟩;obtain⟨a',cs,ha',⟨rfl,j1,j2⟩,_,_,hfl'⟩:=hA.at_ hp [Item.reg 4 [Value.int IntKind.i64 x.fst,Value.int IntKind.i64 x.snd]] [];cases ha';have hpk:=(hch j p (by omega) hp).1;have hw1:IntKind.i64.wrap (x.1 - p.1)=x.1 - p.1:=by simp[okE]at hok hpk;rw[dU] <;> omega
      have hw2:IntKind.i64.wrap (x.2 - p.2)=x.2 - p.2:=by simp[okE]at hok hpk;rw[dU] <;> omega
      refine sJ @hw ?_;refine⟨by omega,a,rfl,_,hfl' 0 _ rfl,?_⟩;refine sJ2 @hw @hw1 ?_;refine⟨by omega,a,rfl,_,hfl' 1 _ rfl,?_⟩;refine sJ2 @hw @hw2 ?_;intros;refine gc ?_;refine sI ?_;refine gb (fun h4=>?_) (fun h4=>?_)
      ·intros;refine gr 0 0 ?_;refine sJ c108r7.eq_1 ?_;intros;refine rV ?_;simp only[push_cast,Nat.reduceBEq];rw[gQ,if_neg];intro hc2;have:=(hc2 (j+1) x hkl hx').2 p (by omega) hp;simp at h4;omega
      ·intros;refine gr 46 47 ?_;refine sJ c108r8.eq_1 ?_
       (intros;try refine du ?_)
       have hw3:IntKind.i64.wrap ((j:Int)+1+1)=((j+1+1:Nat):Int):=by have:=hm;unfold maxLen at this;rw[dU] <;> omega
       refine eh ⟨⟨j+1+1,⟨by omega,sG hch hx' hok ?_⟩,?_⟩,?_⟩
       ·intro p' _ hp';rw[Nat.add_sub_cancel,hp]at hp';cases hp';simp at h4;omega
       ·refine⟨(eJ @hw3),eE,eE,eE,eE,rfl,rfl⟩
       ·refine sJ @hw3 ?_;omega
     ·have hk0:k=0:=by simp at h3;omega
      refine sI ?_;intros;refine gc ?_;refine sI ?_;intros;refine gr 46 47 ?_;refine sJ c108r8.eq_1 ?_
      (intros;try refine du ?_)
      have hw3:IntKind.i64.wrap ((k:Int)+1)=(k:Int)+1:=by rw[dU] <;> omega
      refine eh ⟨⟨k+1,⟨by omega,sG hch hx' hok fun p h0 _=>absurd h0 (by omega)⟩,?_⟩,?_⟩
      ·refine⟨(eJ @hw3),eE,eE,eE,eE,rfl,rfl⟩
      ·refine sJ @hw3 ?_;omega
  ·have hkl:k=l.length:=by simp at ht;omega
   subst hkl;refine dT ?_;refine sI ?_;intros;refine gr 0 0 ?_;refine sJ c108r9.eq_1 ?_;intros;refine rV ?_;simp only[push_cast,Nat.reduceBEq];rw[gQ,if_pos hch]
theorem IT:∀ (x:Ep) cs,EpE x cs→∀ u∈cs,u.oneCell'=true:=fun x cs h u hu=>by
 rw[h.1]at hu;simp at hu;rcases hu with rfl | rfl <;> rfl
theorem pI(l:List Ep)(v:Value)(G:Nat→Option Obj)(hl:SEp G v l)(hb:l.length≤1000000):
  FnO Tryz.prog 125 #[v] G [] (fun _ L' r=>∃ ys,Cells EpE 2 l ys∧L'=[.row r 151 2 l.length ys]):=by
 refine F125.fnO (by simp) dt (dF ?_);have hl0:=hl;obtain⟨A,c,rfl,hc,hm,hA⟩:=hl;unfold c125;intros;refine gr 0 0 ?_;refine sJ c125r0.eq_1 ?_;intros;refine gr 3 4 ?_;refine sJ c125r1.eq_1 ?_;intros;refine gc ?_;refine sI ?_;refine gb (fun ht=>?_) (fun ht=>?_)
 ·intros;refine gr 0 0 ?_;refine sJ c125r2.eq_1 ?_
  (intros;try refine du ?_)
  have hA0:l=[]:=by
   match l,hA with
   | [],_=>rfl
   | x :: xs,hA=>obtain⟨a,_,ha,_⟩:=hA 0 x rfl;subst ha;cases ht
  subst hA0;refine dx (dR none 151 2) ?_;refine dC (dG _ rfl (List.Sublist.refl _) (dw dt) ?_);exact⟨[],.nil,rfl⟩
 ·intros;refine gr 5 8 ?_;refine sJ c125r3.eq_1 ?_;intro b hb';refine l5 (.inr ⟨⟨_,rfl⟩,rfl,rfl,rfl,rfl⟩) hl0 rfl IT (by unfold maxLen;omega) fun ys A c hc=>?_
  simp only[Nat.zero_add];refine sI ?_
  (intros;try refine du ?_)
  refine dC (dG _ rfl (List.Sublist.refl _) (dw dt) ?_);exact⟨ys,hc,rfl⟩
noncomputable def iI(l:List Ep)(n s:Int):List Ep × Int :=
 if gQ l≠0∨¬ okE (n,s)=true then([],1)else
 match l[l.length - 1]? with
 | none=>([(n,s)],0)
 | some p=>if n < p.1 then([],100)else if n=p.1 then(l,0)else if s < p.2 then([],71)else if s=p.2 then(l.set (l.length - 1) (n,s),0)else(l++[(n,s)],0)
theorem rH {l : List Ep} {n s : Int} (h1 : gQ l = 0) (hok : okE (n, s) = true) : iI l n s = match l[l.length - 1]? with
     | none=>([(n,s)],0)
     | some p=>if n < p.1 then([],100)else if n=p.1 then(l,0)else if s < p.2 then([],71)else if s=p.2 then(l.set (l.length - 1) (n,s),0)else(l++[(n,s)],0):=by
 rw[iI,if_neg];simp[h1,hok]
def Bx(l:List Ep)(n s:Int)(L':List Kx.Item)(r:Value):Prop :=
 ∃ u,r=.tuple #[u,.int .i64 (iI l n s).2]∧∃ ys,Cells EpE 2 (iI l n s).1 ys∧L'=[.row u 151 2 (iI l n s).1.length ys]
theorem Cw(l:List Ep)(n s:Int)(v:Value)(G:Nat→Option Obj)(hl:SEp G v l)(hb:l.length≤1000000)(in1:I64 n)(is1:I64 s):
  FnO Tryz.prog 70 #[v,.int .i64 n,.int .i64 s] G [] (fun _ L' r=>Bx l n s L' r):=by
 refine F70.fnO (by simp) dt (dF ?_);have hl0:=hl;obtain⟨A,c,rfl,hc,hm,hA⟩:=hl;have herr:∀ code:Int,iI l n s=([],code)→∀ e:Env,e 6=.slice none 0 0→e 7=.int .i64 code→∀ h:H,h.D=[]→fW o70 (fun r h'=>Bx l n s h'.L r) .ret e h:=fun code hp e h6 h7 h hD=>by
  obtain⟨G',L,D⟩:=h;dsimp only at hD;subst hD;refine⟨[.slice none 0 0,.int .i64 code],by simp only[l6,o70,h6,h7];rfl,_,(dD (List.nil_sublist L)).trans (dR none 151 2),dw dt,?_⟩;refine⟨_,by rw[hp];rfl,[],?_,?_⟩
  ·rw[hp];exact .nil
  ·rw[hp];rfl
 unfold c70;intros;refine gr 0 0 ?_;refine sJ c70r0.eq_1 ?_;intros;refine gr 11 23 ?_;refine sJ c70r1.eq_1 ?_;refine(ja _ _ _ hl0 _ _).mono ?_;rintro v h' ⟨rfl,rfl⟩;refine sI ?_;refine gd (fun h1=>?_) (fun h1=>?_)
 ·refine sI ?_;intros;refine gc ?_;refine sI ?_;intros;refine gr 0 0 ?_;refine sJ c70r2.eq_1 ?_
  (intros;try refine du ?_)
  refine dC (herr 1 ?_ _ (eE) (eE) _ rfl);rw[iI,if_pos];left;simpa using h1
 refine sI ?_;refine(ke .. |>.mono ?_)
 rintro v h' ⟨rfl,rfl⟩;refine sI ?_;have h1:gQ l=0:=by simpa using h1
 refine gd (fun h2=>?_) (fun h2=>?_)
 ·refine sI ?_;intros;refine gc ?_;refine sI ?_;intros;refine gr 0 0 ?_;refine sJ c70r2.eq_1 ?_
  (intros;try refine du ?_)
  refine dC (herr 1 ?_ _ (eE) (eE) _ rfl);rw[iI,if_pos];right;simp[okE]at h2 ⊢;omega
 refine sI ?_;refine(ke .. |>.mono ?_)
 rintro v h' ⟨rfl,rfl⟩;refine sI ?_;intros;refine gc ?_;refine sI ?_;refine gb (fun h3=>?_) (fun h3=>?_)
 ·intros;refine gr 0 0 ?_;refine sJ c70r2.eq_1 ?_
  (intros;try refine du ?_)
  refine dC (herr 1 ?_ _ (eE) (eE) _ rfl);rw[iI,if_pos];right;simp[okE]at h3 ⊢;omega
 have hok:okE (n,s)=true:=by simp at h2 h3;simp[okE];omega
 have hput:=rH h1 hok;intros;refine gr 24 29 ?_;refine sJ c70r3.eq_1 ?_;refine(pI l _ G hl0 hb [] []).mono ?_;rintro u h' ⟨G',L',rfl,hg,ys,hys,rfl⟩;refine sI ?_;intros;refine gr 29 31 ?_;refine sJ c70r4.eq_1 ?_;intros;refine gc ?_;refine sI ?_;refine gb (fun h4=>?_) (fun h4=>?_)
 ·have hl4:l=[]:=by simpa using h4
  subst hl4;have hys0:ys=[]:=by cases hys;rfl
  subst hys0;intros;refine gr 32 36 ?_;refine sJ c70r5.eq_1 ?_;intro b hb';refine⟨[.row (.slice (some ⟨b,0,none⟩) 1 1) 151 2 1 [.int .i64 n,.int .i64 s],.reg 9 [.int .i64 n,.int .i64 s]],0,[],[],1,[.int .i64 n,.int .i64 s],.inl rfl,kZ (.head _) ?_ rfl,by decide,fun A' c'=>?_⟩
  ·intro u hu;simp at hu;rcases hu with rfl | rfl <;> rfl
  ·refine sI ?_
   (intros;try refine du ?_)
   refine dC (dG [.row (.slice A' 1 c') 151 2 1 [.int .i64 n,.int .i64 s]] rfl (.cons _ (.cons _ (List.Sublist.refl _))) (dw dt) ?_);refine⟨_,by rw[hput];rfl,[.int .i64 n,.int .i64 s],?_,by rw[hput];rfl⟩;rw[hput];exact .one ⟨rfl,in1,is1⟩ rfl
 have hl4:0 < l.length:=by simp at h4;exact List.length_pos_iff.2 h4
 obtain⟨p,hp⟩:∃ p,l[l.length - 1]?=some p:=⟨l[l.length - 1],List.getElem?_eq_getElem (by omega)⟩;rw[hp]at hput;dsimp only at hput
 (intros;try refine du ?_)
 refine ed (kq (v:=u) (et:=151) (sz:=2) (n:=l.length) (xs:=ys) (by simp) hl4) ?_;rintro h' ⟨rfl,g,cu,rfl,hc1,hc2⟩;obtain⟨cs,⟨rfl,ip1,ip2⟩,_,hld⟩:=hys.get hp;intros;refine gr 36 41 ?_;(refine sJ2 c70r6.eq_1 (Fh l.length hl4 (by omega)) ?_);refine⟨by omega,_,rfl,?_⟩
 have hrow:Item.row (Value.slice (some ⟨g,0,none⟩) l.length cu) 151 2 l.length ys∈[Item.reg 9 [Value.int IntKind.i64 n,Value.int IntKind.i64 s],Item.row (Value.slice (some ⟨g,0,none⟩) l.length cu) 151 2 l.length ys]:=by simp
 have hlp:ys.length=l.length * 2:=hys.len;intros;refine gr 46 52 ?_;refine sJ2 c70r7.eq_1 @Nat.zero_add ?_;refine⟨_,eR hrow (hld 0 _ rfl),?_⟩;refine sI ?_;intros;refine gc ?_;refine sI ?_;refine gb (fun h5=>?_) (fun h5=>?_)
 ·intros;refine gr 0 0 ?_;refine sJ c70r8.eq_1 ?_
  (intros;try refine du ?_)
  refine dC (herr 100 ?_ _ (eE) (eE) _ rfl);rw[hput,if_pos (by simpa using h5)]
 rw[if_neg (by simpa using h5)]at hput;intros;refine gr 53 59 ?_;refine sJ2 c70r9.eq_1 @Nat.zero_add ?_;refine⟨_,eR hrow (hld 0 _ rfl),?_⟩;refine sI ?_;have hend:∀ (e:Env) (u:Value) (zs:List Ep) (zc:List Value) (L1 L2:List Kx.Item) (_:iI l n s=(zs,0)) (_:Cells EpE 2 zs zc) (_:e 8=u),
   go none Tryz.prog 77 v70.1 v70.2 (fW o70 fun v h=>Bx l n s h.L v) [Td.s (SC.reg false c70r15),Td.s SC.ret] e ⟨G',L1++.row u 151 2 zs.length zc :: L2,[]⟩:=fun e u zs zc L1 L2 h6 h7 h8=>by
  intros;refine gr 76 77 ?_;refine sJ2 c70r15.eq_1 @h8 ?_
  (intros;try refine du ?_)
  refine dC (dG [.row u 151 2 zs.length zc] rfl (by
   refine List.Sublist.trans ?_ (List.sublist_append_right _ _)
   simp) (dw dt) ?_)
  exact⟨_,by rw[h6];rfl,zc,by rw[h6];exact h7,by rw[h6];rfl⟩
 intros;refine gc ?_;refine sI ?_;refine gb (fun h6=>?_) (fun h6=>?_)
 ·(intros;try refine du ?_)
  rw[if_pos (by simpa using h6)]at hput;exact hend _ (.slice (some ⟨g,0,none⟩) l.length cu) l ys [_] [] hput hys rfl
 rw[if_neg (by simpa using h6)]at hput;intros;refine gr 60 66 ?_;refine sJ2 c70r10.eq_1 @Nat.zero_add ?_;refine⟨_,eR hrow (hld 1 _ rfl),?_⟩;refine sI ?_;intros;refine gc ?_;refine sI ?_;refine gb (fun h7=>?_) (fun h7=>?_)
 ·intros;refine gr 0 0 ?_;refine sJ c70r11.eq_1 ?_
  (intros;try refine du ?_)
  refine dC (herr 71 ?_ _ (eE) (eE) _ rfl);rw[hput,if_pos (by simpa using h7)]
 rw[if_neg (by simpa using h7)]at hput;intros;refine gr 67 73 ?_;refine sJ2 c70r12.eq_1 @Nat.zero_add ?_;refine⟨_,eR hrow (hld 1 _ rfl),?_⟩;refine sI ?_;intros;refine gc ?_;refine sI ?_;refine gb (fun h8=>?_) (fun h8=>?_)
 ·rw[if_pos (by simpa using h8)]at hput;intros;refine gr 73 76 ?_;refine sJ2 c70r13.eq_1 @Nat.zero_add ?_;refine fF [Item.reg 9 [Value.int IntKind.i64 n,Value.int IntKind.i64 s]] [] rfl (by rw[hlp];simp;omega) ⟨rfl,rfl⟩ ?_;refine sI ?_
  (intros;try refine du ?_)
  have hz:=fun e he=>hend e (.slice (some ⟨g,0,none⟩) l.length cu) _ _ [.reg 9 [.int .i64 n,.int .i64 s]] [] hput (hys.set (k:=l.length - 1) (x:=(n,s)) (by omega) ⟨rfl,in1,is1⟩ rfl) he
  simp only[List.length_set]at hz;exact hz _ rfl
 ·rw[if_neg (by simpa using h8)]at hput;intros;refine gr 41 45 ?_;refine sJ c70r14.eq_1 ?_;intro b hb';refine⟨[.row (.slice (some ⟨b,0,none⟩) 1 1) 151 2 1 [.int .i64 n,.int .i64 s],.reg 9 [.int .i64 n,.int .i64 s]],l.length,ys,[],1,[.int .i64 n,.int .i64 s],.inl rfl,kZ (.head _) ?_ rfl,by unfold maxLen;omega,fun A' c'=>?_⟩
  ·intro u hu;simp at hu;rcases hu with rfl | rfl <;> rfl
  ·refine sI ?_
   (intros;try refine du ?_)
   have hz:=fun e he=>hend e (.slice A' (l.length+1) c') _ _ [.row (.slice (some ⟨b,0,none⟩) 1 1) 151 2 1 [.int .i64 n,.int .i64 s],.reg 9 [.int .i64 n,.int .i64 s]] [] hput (hys.app (.one ⟨rfl,in1,is1⟩ rfl)) he
   simp only[List.length_append,List.length_cons,List.length_nil,Nat.zero_add]at hz;exact hz _ rfl
end Go.Proofs.YtpmofpekcbghnaaGreat
namespace Go.Proofs.YtpmofpekcbghnaaGreat
open Go Go.Kx
theorem F144:Fun Tryz.prog 144 26 v144 c144 o144:=Fun.mkA Tryz.func144 Tryz.ntmps144
theorem F183:Fun Tryz.prog 183 9 v183 c183 o183:=Fun.mkA Tryz.func183 Tryz.ntmps183
theorem F204:Fun Tryz.prog 204 12 v204 c204 o204:=Fun.mkA Tryz.func204 Tryz.ntmps204
theorem F160:Fun Tryz.prog 160 33 v160 c160 o160:=Fun.mkA Tryz.func160 Tryz.ntmps160
theorem F90:Fun Tryz.prog 90 17 v90 c90 o90:=Fun.mkA Tryz.func90 Tryz.ntmps90
theorem F145:Fun Tryz.prog 145 12 v145 c145 o145:=Fun.mkA Tryz.func145 Tryz.ntmps145
theorem pn(n:Nat)(hn:n < 9223372036854775808)(p:Nat→Bool)(g:Nat)(cap:Array Value)(G:Nat→Option Obj)(hp:∀ i:Nat,i < n→FnS Tryz.prog g (#[.int .i64 i]++cap) G (.bool (p i))):
  FnE Tryz.prog 144 #[.int .i64 n,.func (.func g) #[] cap] G (fun r=>∃ j:Nat,j≤n∧r=.int .i64 j∧(j < n→p j=true)∧(0 < j→p (j - 1)=false)):=by
 refine F144.fnE (by simp) (dF ?_);unfold c144;intros;refine gr 0 0 ?_;refine sJ c144r0.eq_1 ?_;intros;refine gr 8 9 ?_;refine sJ c144r1.eq_1 ?_
 (intros;try refine du ?_)
 refine dW (fun e h=>∃ i j:Nat,(i≤j∧j≤n)∧((j < n→p j=true)∧(0 < i→p (i - 1)=false))∧e 5=.int .i64 i∧e 6=.int .i64 j∧e 1=.func (.func g) #[] cap∧h=⟨G,[],[]⟩) (fun e h=>iv (e 6) - iv (e 5)) ?_ ?_
 ·exact⟨0,n,⟨by omega,by omega⟩,⟨fun h=>absurd h (by omega),fun h=>absurd h (by omega)⟩,eE,eE,eE,rfl⟩
 ·rintro e h ⟨i,j,⟨hij,hjn⟩,⟨h1,h2⟩,e5,e6,e1,rfl⟩;refine dz [1,5,6] ?_;refine sJ3 @e5 @e6 @e1 ?_;intros;refine gr 9 11 ?_;refine sJ c144r2.eq_1 ?_;intros;refine gc ?_;refine sI ?_;refine gb (fun ht=>?_) (fun ht=>?_)
  ·have hlt:i < j:=by simpa using ht
   obtain⟨m,hm1,hm2,hh,hv⟩:∃ m:Nat,i≤m∧m < j∧eZ .shr (.int .u64 (IntKind.u64.wrap (IntKind.i64.wrap ((i:Int)+j)))) (.int .u64 1)=some (.int .u64 (m:Int))∧IntKind.i64.wrap (m:Int)=m :=
    ⟨(i+j) / 2,by omega,by omega,Hg i j (by omega),cvh i j (by omega)⟩
   intros;refine gr 12 18 ?_;refine sJ3 c144r3.eq_1 @hh @hv ?_;intros;refine gr 18 21 ?_;refine sJ c144r4.eq_1 ?_;refine .inl ⟨g,cap,rfl,(hp m (by omega) [] []).mono ?_⟩;rintro v h' ⟨rfl,rfl⟩;refine sI ?_;intros;refine gc ?_;refine sI ?_;refine gb (fun h3=>?_) (fun h3=>?_)
   ·have hw:IntKind.i64.wrap ((m:Int)+1)=(m:Int)+1:=by rw[dU] <;> omega
    intros;refine gr 22 24 ?_;refine sJ2 c144r5.eq_1 @hw ?_
    (intros;try refine du ?_)
    refine eh ⟨⟨m+1,j,⟨by omega,by omega⟩,⟨h1,fun _=>by simpa using h3⟩,(eJ @hw),eE,eE,rfl⟩,?_⟩;refine sJ @hw ?_;omega
   ·intros;refine gr 24 25 ?_;refine sJ c144r6.eq_1 ?_
    (intros;try refine du ?_)
    refine eh ⟨⟨i,m,⟨by omega,by omega⟩,⟨fun _=>by simpa using h3,h2⟩,eE,eE,eE,rfl⟩,?_⟩;refine sI ?_;omega
  ·have hij':i=j:=by simp at ht;omega
   subst hij';refine dT ?_;refine sI ?_;intros;refine gr 25 26 ?_;refine sJ c144r7.eq_1 ?_;intros;refine rV ?_;simp only[push_cast,Nat.reduceBEq];exact⟨i,hjn,rfl,h1,h2⟩
def pf(l:List Ep)(n:Int)(j:Nat):Prop:=j≤l.length∧(∀ x,l[j]?=some x→n < x.1)∧∀ x,0 < j→l[j - 1]?=some x→x.1≤n
theorem vg(l:List Ep)(A:Option Addr)(c:Nat)(n:Int)(G:Nat→Option Obj)(b1 b2:Nat)(hA:SlA G EpE 2 A l)(h1:eT G ⟨b1,0,none⟩=some (.slice A l.length c))(h2:eT G ⟨b2,0,none⟩=some (.int .i64 n))(i:Nat)(x:Ep)(hx:l[i]?=some x):
  FnS Tryz.prog 204 #[.int .i64 i,.pointer (some ⟨b1,0,none⟩),.pointer (some ⟨b2,0,none⟩)] G (.bool (decide (n < x.1))):=by
 refine F204.fnS (by simp) (dF ?_);unfold c204;intros;refine gr 0 0 ?_;refine sJ c204r0.eq_1 ?_
 (intros;try refine du ?_);refine xM 5 12 (by decide) ?_;refine sJ c204r1.eq_1 ?_
 refine⟨_,⟨_,rfl,.g h1⟩,?_⟩;refine sI ?_;refine hA.y_lf hx rfl rfl (fun cs h=>by rw[h.1];rfl) fun a ha=>?_
 refine sI ?_;refine⟨_,⟨_,rfl,.g h2⟩,?_⟩;refine sI ?_;intros;refine rV ?_;simp only[push_cast,Nat.reduceBEq]
theorem yG(l:List Ep)(n:Int)(v:Value)(G:Nat→Option Obj)(hl:SEp G v l)(hb:l.length≤1000000):
  FnE Tryz.prog 183 #[v,.int .i64 n] G (fun r=>∃ j:Nat,r=.int .i64 j∧pf l n j):=by
 refine F183.fnE (by simp) (dF ?_);obtain⟨A,c,rfl,hc,hm,hA⟩:=hl;unfold c183;intros;refine gr 0 0 ?_;refine sJ c183r0.eq_1 ?_;intro b1 hb1 b2 hb2
 (intros;try refine du ?_)
 refine ed jg ?_;rintro h' ⟨G1,rfl,hg1,hc1⟩;refine ed jg ?_;rintro h' ⟨G2,rfl,hg2,hc2⟩;have e1:=hc2 0 _ rfl;have e2:=dJ hg2 (hc1 0 _ rfl);rw[es]at e1 e2;have hA2:SlA G2 EpE 2 A l:=(hA.le hg1 fun _ _ h=>h).le hg2 fun _ _ h=>h
 intros;refine gr 5 9 ?_;refine sJ c183r1.eq_1 ?_;refine⟨_,⟨_,rfl,.g e1⟩,?_⟩;refine sI ?_;refine(pn l.length (by omega) (fun i=>decide (∃ x,l[i]?=some x∧n < x.1)) 204 #[.pointer (some ⟨b1,0,none⟩),.pointer (some ⟨b2,0,none⟩)] G2 (fun i hi=>?_) [] []).mono ?_
 ·obtain⟨x,hx⟩:∃ x,l[i]?=some x:=⟨l[i],List.getElem?_eq_getElem (by omega)⟩;have:=vg l A c n G2 b1 b2 hA2 e1 e2 i x hx;have he:decide (∃ x,l[i]?=some x∧n < x.1)=decide (n < x.1):=by simp[hx]
  rw[he];exact this
 ·rintro r h' ⟨⟨j,hj,rfl,h1,h2⟩,rfl⟩;refine sI ?_;intros;refine rV ?_;simp only[push_cast,Nat.reduceBEq];refine⟨j,rfl,hj,fun x hx=>?_,fun x h0 hx=>?_⟩
  ·have:=h1 (List.getElem?_eq_some_iff.1 hx).1;simpa [hx]using this
  ·have:=h2 h0;simpa [hx]using this
def Cv(l:List Ep)(n en w o:Int):Prop :=
 (gQ l≠0∧w=-1∧o=0)∨(gQ l=0∧∃ j,pf l n j∧((j=0∧w=-1∧o=0)∨∃ x,0 < j∧l[j - 1]?=some x∧w=x.1∧o=(l[j]?.map (·.2)).getD en))
theorem ph(l:List Ep)(n en:Int)(v:Value)(G:Nat→Option Obj)(hl:SEp G v l)(hb:l.length≤1000000):
  FnE Tryz.prog 160 #[v,.int .i64 n,.int .i64 en] G (fun r=>∃ w o,r=.tuple #[.int .i64 w,.int .i64 o]∧Cv l n en w o):=by
 refine F160.fnE (by simp) (dF ?_);have hl0:=hl;obtain⟨A,c,rfl,hc,hm,hA⟩:=hl;unfold c160;intros;refine gr 0 0 ?_;refine sJ c160r0.eq_1 ?_;intros;refine gr 0 0 ?_;refine sJ c160r1.eq_1 ?_;intros;refine gr 9 11 ?_;refine sJ c160r2.eq_1 ?_;refine(ja _ _ _ hl0 _ _).mono ?_;rintro v h' ⟨rfl,rfl⟩;refine sI ?_;intros;refine gc ?_;refine sI ?_
 have hend:∀ (e:Env) (j:Nat),e 0=.slice A l.length c→e 2=.int .i64 en→e 8=.int .i64 j→(j=0∧gQ l≠0)∨(gQ l=0∧pf l n j) →
   go none Tryz.prog 33 v160.1 v160.2 (fW o160 fun r x=>∃ w o,r=.tuple #[.int .i64 w,.int .i64 o]∧Cv l n en w o)
    [Td.s (SC.seq (.seq (.reg false c160r4) (.cond (.t 16) (.seq (.reg false c160r5) .ret) .skip)) (.seq (.seq (.reg false c160r6) (.cond (.t 20) (.reg false c160r7) .skip)) (.seq (.reg false c160r8) .ret)))] e ⟨G,[],[]⟩:=fun e j e0 e2 e8 hj=>by
  refine dz [0,2,8] ?_;refine sJ3 @e0 @e2 @e8 ?_;intros;refine gr 15 16 ?_;refine sJ c160r4.eq_1 ?_;intros;refine gc ?_;refine sI ?_;refine gb (fun h1=>?_) (fun h1=>?_)
  ·have hj0:j=0:=by simpa using h1
   intros;refine gr 0 0 ?_;refine sJ c160r5.eq_1 ?_;intros;refine rV ?_;simp only[push_cast,Nat.reduceBEq];refine⟨_,_,rfl,?_⟩;rcases hj with⟨_,h2⟩ | ⟨h2,h3⟩
   ·exact .inl ⟨h2,rfl,rfl⟩
   ·exact .inr ⟨h2,j,h3,.inl ⟨hj0,rfl,rfl⟩⟩
  ·have hj0:0 < j:=by simp at h1;omega
   obtain⟨h2,h3⟩:gQ l=0∧pf l n j:=by rcases hj with⟨h2,_⟩ | h2;omega;exact h2
   obtain⟨x,hx⟩:∃ x,l[j - 1]?=some x:=⟨l[j - 1]'(by have:=h3.1;omega),List.getElem?_eq_getElem _⟩;have hlast:∀ (e:Env) (b:Int),e 0=.slice A l.length c→e 2=.int .i64 b→e 8=.int .i64 j→b=(l[j]?.map (·.2)).getD en →
    go none Tryz.prog 33 v160.1 v160.2 (fW o160 fun r x=>∃ w o,r=.tuple #[.int .i64 w,.int .i64 o]∧Cv l n en w o) [Td.s (SC.seq (.reg false c160r8) .ret)] e ⟨G,[],[]⟩:=fun e b e0 e2 e8 hb'=>by
    intros;refine gr 26 33 ?_;(refine sJ5 c160r8.eq_1 @e0 @e2 @e8 (Fh j hj0 (by have:=h3.1;omega)) ?_);refine hA.x_lf hx rfl rfl (fun cs h=>by rw[h.1];rfl) fun a ha=>?_
    refine sJ @e2 ?_;intros;refine rV ?_;simp only[push_cast,Nat.reduceBEq];refine⟨_,_,rfl,.inr ⟨h2,j,h3,.inr ⟨x,hj0,hx,rfl,hb'⟩⟩⟩
   intros;refine gr 17 20 ?_;refine sJ c160r6.eq_1 ?_;intros;refine gc ?_;refine sI ?_;refine gb (fun h4=>?_) (fun h4=>?_)
   ·obtain⟨y,hy⟩:∃ y,l[j]?=some y:=⟨l[j]'(by simpa using h4),List.getElem?_eq_getElem _⟩;intros;refine gr 21 26 ?_;refine sJ c160r7.eq_1 ?_;refine hA.x_lf hy rfl rfl (fun cs h=>by rw[h.1];rfl) fun a ha=>?_
    refine sI ?_;intro b;refine hlast _ y.2 (eE) (eE) (eE) (by rw[hy];rfl)
   ·refine ef ?_;refine hlast _ en (eE) (eE) (eE) ?_;rw[List.getElem?_eq_none (by simpa using h4)];rfl
 refine gb (fun h1=>?_) (fun h1=>?_)
 ·have h1:gQ l=0:=by simpa using h1
  intros;refine gr 12 15 ?_;refine sJ c160r3.eq_1 ?_;refine(yG l n _ G hl0 hb [] []).mono ?_;rintro r h' ⟨⟨j,rfl,hj⟩,rfl⟩;refine sI ?_;intro b;refine hend _ j ?_ ?_ ?_ (.inr ⟨h1,hj⟩) <;> exact eE
 ·refine ef ?_;refine hend _ 0 ?_ ?_ ?_ (.inl ⟨rfl,by simpa using h1⟩) <;> exact eE
theorem jt{l:List Ep}(h:gQ l=0){i k:Nat}{x y:Ep}(hik:i < k)(hx:l[i]?=some x)(hy:l[k]?=some y):x.1 < y.1∧x.2 < y.2:=by
 have hc:Chk l l.length:=by
  unfold gQ at h;split at h
  ·assumption
  ·omega
 induction k generalizing y with
 | zero=>omega
 | succ k ih =>
  have hlt:=(List.getElem?_eq_some_iff.1 hy).1;obtain⟨z,hz⟩:∃ z,l[k]?=some z:=⟨l[k],List.getElem?_eq_getElem (by omega)⟩;have h1:=(hc (k+1) y hlt hy).2 z (by omega) (by simpa using hz);by_cases hk:i=k
  ·subst hk;rw[hx]at hz;cases hz;exact h1
  ·have:=ih (by omega) hz;omega
theorem vm{l:List Ep}(h:gQ l=0){i:Nat}{x:Ep}(hx:l[i]?=some x):okE x=true:=by
 have hc:Chk l l.length:=by
  unfold gQ at h;split at h
  ·assumption
  ·omega
 exact(hc i x (List.getElem?_eq_some_iff.1 hx).1 hx).1
theorem qX{l:List Ep}(h:gQ l=0){n:Int}{j j':Nat}(h1:pf l n j)(h2:pf l n j'):j=j':=by
 have key:∀ {a b:Nat},pf l n a→pf l n b→¬ a < b:=fun {a b} ha hb hab=>by
  have hbl:=hb.1;obtain⟨x,hx⟩:∃ x,l[a]?=some x:=⟨l[a],List.getElem?_eq_getElem (by omega)⟩;obtain⟨y,hy⟩:∃ y,l[b - 1]?=some y:=⟨l[b - 1],List.getElem?_eq_getElem (by omega)⟩;have h3:=ha.2.1 x hx;have h4:=hb.2.2 y (by omega) hy;by_cases hab':a=b - 1
  ·subst hab';rw[hx]at hy;cases hy;omega
  ·have:=(jt h (show a < b - 1 by omega) hx hy).1;omega
 have:=key h1 h2;have:=key h2 h1;omega
theorem qK{l:List Ep}{n en w o w' o':Int}(h1:Cv l n en w o)(h2:Cv l n en w' o'):w=w'∧o=o':=by
 rcases h1 with⟨a,rfl,rfl⟩ | ⟨a,j,hj,hr⟩ <;> rcases h2 with⟨b,rfl,rfl⟩ | ⟨b,j',hj',hr'⟩
 ·exact⟨rfl,rfl⟩
 ·exact absurd b a
 ·exact absurd a b
 ·have:=qX a hj hj';subst this;rcases hr with⟨r0,rfl,rfl⟩ | ⟨x,r0,r1,rfl,rfl⟩ <;> rcases hr' with⟨r0',rfl,rfl⟩ | ⟨x',r0',r1',rfl,rfl⟩
  ·exact⟨rfl,rfl⟩
  ·omega
  ·omega
  ·rw[r1]at r1';cases r1';exact⟨rfl,rfl⟩
theorem uB{l:List Ep}{en w o:Int}{k:Nat}{x:Ep}(h:gQ l=0)(hx:l[k]?=some x)(hr:Cv l x.1 en w o):w=x.1∧o=(l[k+1]?.map (·.2)).getD en:=by
 have hk:=(List.getElem?_eq_some_iff.1 hx).1;refine qK hr (.inr ⟨h,k+1,⟨by omega,fun y hy=>(jt h (Nat.lt_succ_self k) hx hy).1,fun y _ hy=>?_⟩,.inr ⟨x,by omega,by simpa using hx,rfl,rfl⟩⟩);rw[Nat.add_sub_cancel,hx]at hy;cases hy;omega
noncomputable def nf(l:List Ep)(off:Int):List Ep:=l.filter fun x=>decide (gQ l=0) && decide (x.2 < off)
def FQ(zs:List Ep)(L':List Kx.Item)(r:Value):Prop:=∃ ys,Cells EpE 2 zs ys∧L'=[.row r 151 2 zs.length ys]
theorem yZ(l:List Ep)(A:Option Addr)(c:Nat)(n:Int)(G:Nat→Option Obj)(b1 b2:Nat)(hA:SlA G EpE 2 A l)(h1:eT G ⟨b1,0,none⟩=some (.slice A l.length c))(h2:eT G ⟨b2,0,none⟩=some (.int .i64 n))(i:Nat)(x:Ep)(hx:l[i]?=some x):
  FnS Tryz.prog 145 #[.int .i64 i,.pointer (some ⟨b1,0,none⟩),.pointer (some ⟨b2,0,none⟩)] G (.bool (decide (n≤x.2))):=by
 refine F145.fnS (by simp) (dF ?_);unfold c145;intros;refine gr 0 0 ?_;refine sJ c145r0.eq_1 ?_
 (intros;try refine du ?_);refine xM 5 12 (by decide) ?_;refine sJ c145r1.eq_1 ?_
 refine⟨_,⟨_,rfl,.g h1⟩,?_⟩;refine sI ?_;refine hA.y_lf hx rfl rfl (fun cs h=>by rw[h.1];rfl) fun a ha=>?_
 refine sI ?_;refine⟨_,⟨_,rfl,.g h2⟩,?_⟩;refine sI ?_;intros;refine rV ?_;simp only[push_cast,Nat.reduceBEq]
theorem vx{l:List Ep}(h:gQ l=0){off:Int}{j:Nat}(hj:j≤l.length)(h1:∀ x,l[j]?=some x→off≤x.2)(h2:∀ x,0 < j→l[j - 1]?=some x→x.2 < off):nf l off=l.take j:=by
 have e:l=l.take j++l.drop j:=(List.take_append_drop j l).symm;have h3:(l.take j).filter (fun x=>decide (gQ l=0) && decide (x.2 < off))=l.take j:=by
  rw[List.filter_eq_self];intro x hx;obtain⟨i,hi⟩:=List.getElem?_of_mem hx;rw[List.getElem?_take]at hi;split at hi
  ·rename_i hij;obtain⟨y,hy⟩:∃ y,l[j - 1]?=some y:=⟨l[j - 1],List.getElem?_eq_getElem (by omega)⟩;have h4:=h2 y (by omega) hy;have:x.2 < off:=by
    by_cases hij':i=j - 1
    ·subst hij';rw[hi]at hy;cases hy;exact h4
    ·have:=(jt h (show i < j - 1 by omega) hi hy).2;omega
   simp[h,this]
  ·cases hi
 have h4:(l.drop j).filter (fun x=>decide (gQ l=0) && decide (x.2 < off))=[]:=by
  rw[List.filter_eq_nil_iff];intro x hx;obtain⟨i,hi⟩:=List.getElem?_of_mem hx;rw[List.getElem?_drop]at hi;obtain⟨y,hy⟩:∃ y,l[j]?=some y:=⟨l[j]'(by have:=(List.getElem?_eq_some_iff.1 hi).1;omega),List.getElem?_eq_getElem _⟩;have h4:=h1 y hy;have:off≤x.2:=by
   by_cases hij':i=0
   ·subst hij';rw[Nat.add_zero]at hi;rw[hi]at hy;cases hy;exact h4
   ·have:=(jt h (show j < j+i by omega) hy hi).2;omega
  simp;intro _;omega
 unfold nf;have h5:=List.filter_append (p:=fun x=>decide (gQ l=0) && decide (x.2 < off)) (l.take j) (l.drop j);rw[← e,h3,h4,List.append_nil]at h5;exact h5
theorem Cy(l:List Ep)(off:Int)(v:Value)(G:Nat→Option Obj)(hl:SEp G v l)(hb:l.length≤1000000):
  FnO Tryz.prog 90 #[v,.int .i64 off] G [] (fun _ L' r=>FQ (nf l off) L' r):=by
 refine F90.fnO (by simp) dt (dF ?_);obtain⟨A,c,rfl,hc,hm,hA⟩:=hl;unfold c90;intros;refine gr 0 0 ?_;refine sJ c90r0.eq_1 ?_;intro b1 hb1 b2 hb2
 (intros;try refine du ?_)
 refine ed jg ?_;rintro h' ⟨G1,rfl,hg1,hc1⟩;refine ed jg ?_;rintro h' ⟨G2,rfl,hg2,hc2⟩;have e1:=hc2 0 _ rfl;have e2:=dJ hg2 (hc1 0 _ rfl);rw[es]at e1 e2;have hA2:SlA G2 EpE 2 A l:=(hA.le hg1 fun _ _ h=>h).le hg2 fun _ _ h=>h
 have hl2:SEp G2 (.slice A l.length c) l:=⟨A,c,rfl,hc,hm,hA2⟩;intros;refine gr 6 8 ?_;refine sJ c90r1.eq_1 ?_;refine⟨_,⟨_,rfl,.g e1⟩,?_⟩;refine sI ?_;refine(ja _ _ _ hl2 _ _).mono ?_;rintro v h' ⟨rfl,rfl⟩;refine sI ?_;intros;refine gc ?_;refine sI ?_;refine gb (fun h1=>?_) (fun h1=>?_)
 ·intros;refine gr 0 0 ?_;refine sJ c90r2.eq_1 ?_
  (intros;try refine du ?_)
  refine dx (dR none 151 2) ?_;refine dC (dG _ rfl (List.Sublist.refl _) (dw dt) ?_);have:nf l off=[]:=by
   unfold nf;rw[List.filter_eq_nil_iff];intro x _;simp at h1;simp[h1]
  exact⟨[],by rw[this];exact .nil,by rw[this];rfl⟩
 have h1:gQ l=0:=by simpa using h1
 intros;refine gr 9 13 ?_;refine sJ c90r3.eq_1 ?_;refine⟨_,⟨_,rfl,.g e1⟩,?_⟩;refine sI ?_;refine(pn l.length (by omega) (fun i=>decide (∃ x,l[i]?=some x∧off≤x.2)) 145 #[.pointer (some ⟨b1,0,none⟩),.pointer (some ⟨b2,0,none⟩)] G2 (fun i hi=>?_) [] []).mono ?_
 ·obtain⟨x,hx⟩:∃ x,l[i]?=some x:=⟨l[i],List.getElem?_eq_getElem (by omega)⟩;have:=yZ l A c off G2 b1 b2 hA2 e1 e2 i x hx;have he:decide (∃ x,l[i]?=some x∧off≤x.2)=decide (off≤x.2):=by simp[hx]
  rw[he];exact this
 rintro r h' ⟨⟨j,hj,rfl,h2,h3⟩,rfl⟩;have hcut:nf l off=l.take j:=vx h1 hj (fun x hx=>by
  have:=h2 (List.getElem?_eq_some_iff.1 hx).1
  simpa [hx]using this) (fun x h0 hx=>by
  have:=h3 h0
  simpa [hx]using this)
 refine sI ?_;intros;refine gr 13 17 ?_;refine sJ c90r4.eq_1 ?_;refine⟨_,⟨_,rfl,.g e1⟩,?_⟩;refine sI ?_;refine⟨by omega,?_⟩;have hlt:(l.take j).length=j:=by simp;omega
 have htk:SEp G2 (.slice A j c) (l.take j):=⟨A,c,by rw[hlt],by omega,hm,by
  have:=hA2.cut (l:=0) (n:=j) (B:=A) hj (fun _=>by cases A <;> simp[Addr.add])
  simpa using this⟩
 refine(pI _ _ _ htk (by omega) [] []).mono ?_;rintro r h' ⟨G',L',rfl,hg,ys,hys,rfl⟩;refine sI ?_
 (intros;try refine du ?_)
 refine dC (dG _ rfl (List.Sublist.refl _) (dw dt) ?_);exact⟨ys,by rw[hcut];exact hys,by rw[hcut];rfl⟩
theorem F182:Fun Tryz.prog 182 19 v182 c182 o182:=Fun.mkA Tryz.func182 Tryz.ntmps182
theorem F159:Fun Tryz.prog 159 4 v159 c159 o159:=Fun.mkA Tryz.func159 Tryz.ntmps159
theorem F126:Fun Tryz.prog 126 50 v126 c126 o126:=Fun.mkA Tryz.func126 Tryz.ntmps126
def IA(l:List Ep)(_:Nat→Option Obj)(i:Nat)(args:Array Value):Prop:=∃ x,l[i]?=some x∧I64 x.1∧I64 x.2∧args=#[.int .i64 i,.agg #[.int .i64 x.1,.int .i64 x.2]]
theorem zO{n t:Nat}(h:t < n):(List.range n).reverse[t]?=some (n - 1 - t):=by
 rw[List.getElem?_reverse (by simpa using h),List.length_range,List.getElem?_range (by omega)]
theorem Dt{n t i:Nat}(h:(List.range n).reverse[t]?=some i):t < n∧i=n - 1 - t:=by
 have h1:t < n:=by have:=(List.getElem?_eq_some_iff.1 h).1;simpa using this
 rw[zO h1]at h;cases h;exact⟨h1,rfl⟩
theorem uz(l:List Ep)(A:Option Addr)(c b:Nat)(G0:Nat→Option Obj)(hc:l.length≤c)(hm:c≤maxLen)(hA:SlA G0 EpE 2 A l)(h1:eT G0 ⟨b,0,none⟩=some (.slice A l.length c)):
  km Tryz.prog 182 #[.pointer (some ⟨b,0,none⟩)] (List.range l.length).reverse (IA l) G0:=by
 intro yl I Ix G L hG hn hI hIx hmo h0 hy L2 D;have hargs:(#[.func (.yield yl) #[] #[]]++#[.pointer (some ⟨b,0,none⟩)]:Array Value)=#[.func (.yield yl) #[] #[],.pointer (some ⟨b,0,none⟩)]:=rfl;rw[hargs];refine(F182.calls (R:=fun _ h=>Gle G h.G∧(I l.length h.G h.L∨∃ i,i < l.length∧Ix i h.G h.L)) (by simp) hn (dF ?_) L2 D).mono ?_
 ·have e1:=dJ hG h1;unfold c182;intros;refine gr 4 7 ?_;refine sJ c182r0.eq_1 ?_;refine⟨_,⟨_,rfl,.g e1⟩,?_⟩;have hw0:IntKind.i64.wrap ((l.length:Int) - 1)=(l.length:Int) - 1:=by unfold maxLen at hm;rw[dU] <;> omega
  refine sJ @hw0 ?_
  (intros;try refine du ?_)
  refine dW (fun e h=>∃ (t:Nat) (G':Nat→Option Obj) (L':List Kx.Item),(t≤l.length∧Gle G G'∧dO L'∧I t G' L')∧e 3=.int .i64 ((l.length:Int) - 1 - t)∧e 0=.func (.yield yl) #[] #[]∧e 1=.pointer (some ⟨b,0,none⟩)∧h=⟨G',L',[]⟩) (fun e h=>iv1 (e 3)) ?_ ?_
  ·refine⟨0,G,L,⟨Nat.zero_le _,.refl G,hn,h0⟩,?_,rfl,rfl,rfl⟩;refine sI ?_;simp
  ·rintro e h ⟨t,G',L',⟨ht,hgg,hn',hI'⟩,e3,e0,e1',rfl⟩;refine dz [0,1,3] ?_;refine sJ3 @e0 @e1' @e3 ?_;intros;refine gr 7 8 ?_;refine sJ c182r1.eq_1 ?_;intros;refine gc ?_;refine sI ?_;refine gb (fun h2=>?_) (fun h2=>?_)
   ·have htl:t < l.length:=by simp at h2;omega
    obtain⟨x,hx⟩:∃ x,l[l.length - 1 - t]?=some x:=⟨l[l.length - 1 - t],List.getElem?_eq_getElem (by omega)⟩;have e1g:=dJ hgg e1;have hAg:=(hA.le hG fun _ _ h=>h).le hgg fun _ _ h=>h
    have hcast:(l.length:Int) - 1 - t=((l.length - 1 - t:Nat):Int):=by omega
    intros;refine gr 11 18 ?_;refine sJ c182r2.eq_1 ?_;refine⟨_,⟨_,rfl,.g e1g⟩,?_⟩;refine sI ?_;refine hAg.x_ld hx hcast rfl ?_;rintro a1 ha1 cs ⟨rfl,i1,i2⟩;refine sI ?_;refine .inr ⟨yl,rfl,?_⟩;refine(pY hy (zO htl) hgg ⟨x,hx,i1,i2,by rw[hcast]⟩ hI').mono ?_;rintro v h' ⟨G2,L3,rfl,hg2,hn2,hr⟩;rcases hr with⟨rfl,hr⟩ | ⟨rfl,hr⟩
    ·refine sI ?_;intros;refine gc ?_;refine sI ?_;have hw:IntKind.i64.wrap ((l.length:Int) - 1 - t - 1)=(l.length:Int) - 1 - ((t+1:Nat):Int):=by unfold maxLen at hm;rw[dU] <;> omega
     intros;refine gr 9 11 ?_;refine sJ2 c182r3.eq_1 @hw ?_
     (intros;try refine du ?_)
     refine eh ⟨⟨t+1,G2,L3,⟨by omega,hgg.trans hg2,hn2,hr⟩,eE,eE,eE,rfl⟩,?_⟩;refine sJ @FA ?_;omega
    ·refine sI ?_;intros;refine gc ?_;refine sI ?_
     (intros;try refine du ?_)
     refine dC (dG L3 rfl (List.Sublist.refl _) hn2 ?_);exact⟨hgg.trans hg2,.inr ⟨t,htl,hr⟩⟩
   ·have htl:t=l.length:=by simp at h2;omega
    subst htl;refine dT ?_;refine sI ?_;refine fN ?_;exact⟨[],rfl,⟨G',L',[]⟩,dD (List.Sublist.refl _),hn',hgg,.inl hI'⟩
 ·rintro v h' ⟨G',L',rfl,hn',hgg,hr⟩;exact⟨G',L',rfl,hgg,hn',by simpa using hr⟩
theorem FB(l:List Ep)(A:Option Addr)(c:Nat)(G:Nat→Option Obj)(hc:l.length≤c)(hm:c≤maxLen)(hA:SlA G EpE 2 A l):
  FnD Tryz.prog 159 #[.slice A l.length c] G (fun G' r=>∃ b,r=.func (.func 182) #[] #[.pointer (some ⟨b,0,none⟩)]∧km Tryz.prog 182 #[.pointer (some ⟨b,0,none⟩)] (List.range l.length).reverse (IA l) G'):=by
 refine F159.fnD (by simp) (dF ?_);unfold c159;intros;refine gr 0 0 ?_;refine sJ c159r0.eq_1 ?_;intro b1 hb1
 (intros;try refine du ?_)
 refine ed jg ?_;rintro h' ⟨G1,rfl,hg1,hc1⟩;have e1:=hc1 0 _ rfl;rw[es]at e1;intros;refine gr 3 4 ?_;refine sJ c159r1.eq_1 ?_;intros;refine rV ?_;simp only[push_cast,Nat.reduceBEq];exact⟨b1,rfl,uz l A c b1 G1 hc hm (hA.le hg1 fun _ _ h=>h) e1⟩
def CS(l:List Ep)(i:Nat)(en:Int):Int:=(l[i+1]?.map (·.2)).getD en
def lX(a b:List Ep)(ae be m:Int):Prop :=
 ((gQ a≠0∨gQ b≠0)∧m=0)∨(gQ a=0∧gQ b=0 ∧
   (((∀ (i:Nat) (x:Ep) (k:Nat) (y:Ep),a[i]?=some x→b[k]?=some y→x.1≠y.1)∧m=0) ∨
    ∃ (i:Nat) (x:Ep) (k:Nat) (y:Ep),a[i]?=some x∧b[k]?=some y∧x.1=y.1∧(∀ (i':Nat) (x':Ep) (k':Nat) (y':Ep),i < i'→a[i']?=some x'→b[k']?=some y'→x'.1≠y'.1)∧m=min (CS a i ae) (CS b k be)))
theorem qQ{b:List Ep}{n be w o:Int}(hb:gQ b=0)(hn:0≤n)(hr:Cv b n be w o):
  (w=n∧∃ (k:Nat) (y:Ep),b[k]?=some y∧n=y.1∧o=CS b k be)∨(w≠n∧∀ (k:Nat) (y:Ep),b[k]?=some y→n≠y.1):=by
 by_cases h:∃ (k:Nat) (y:Ep),b[k]?=some y∧n=y.1
 ·obtain⟨k,y,hy,rfl⟩:=h;obtain⟨h1,h2⟩:=uB hb hy hr;exact .inl ⟨h1,k,y,hy,rfl,h2⟩
 ·refine .inr ⟨fun hw=>?_,fun k y hy he=>h ⟨k,y,hy,he⟩⟩;rcases hr with⟨h1,_⟩ | ⟨_,j,_,⟨_,h2,_⟩ | ⟨x,h0,hx,h2,_⟩⟩
  ·exact h1 hb
  ·omega
  ·exact h ⟨_,x,hx,by omega⟩
theorem yT(a b:List Ep)(ae be:Int)(va vb:Value)(G:Nat→Option Obj)(ha:SEp G va a)(hb:SEp G vb b)(hla:a.length≤1000000)(hlb:b.length≤1000000):
  FnE Tryz.prog 126 #[va,.int .i64 ae,vb,.int .i64 be] G (fun r=>∃ m,r=.int .i64 m∧lX a b ae be m):=by
 refine F126.fnE (by simp) (dF ?_);obtain⟨A,c,rfl,hc,hm,hA⟩:=ha;obtain⟨B,d,rfl,hd,hmd,hB⟩:=hb;unfold c126;intros;refine gr 0 0 ?_;refine sJ c126r0.eq_1 ?_;intro b4 hb4 b5 hb5 b6 hb6 b7 hb7 b8 hb8
 (intros;try refine du ?_)
 refine ed (ec [_] _) ?_;rintro h' ⟨G1,rfl,hg1,f7⟩;refine ed (ec [_] _) ?_;rintro h' ⟨G2,rfl,hg2,f6⟩;refine ed (ec [_] _) ?_;rintro h' ⟨G3,rfl,hg3,f5⟩;refine ed (ec [_] _) ?_;rintro h' ⟨G4,rfl,hg4,f4⟩;have e4:=f4 0 _ rfl;have e5:=dJ hg4 (f5 0 _ rfl);have e6:=dJ hg4 (dJ hg3 (f6 0 _ rfl));have e7:=dJ hg4 (dJ hg3 (dJ hg2 (f7 0 _ rfl)));rw[es]at e4 e5 e6 e7
 have hgg:Gle G G4:=((hg1.trans hg2).trans hg3).trans hg4;have hA4:=hA.le hgg fun _ _ h=>h
 have hB4:=hB.le hgg fun _ _ h=>h
 have ha4:SEp G4 (.slice A a.length c) a:=⟨A,c,rfl,hc,hm,hA4⟩;have hb4':SEp G4 (.slice B b.length d) b:=⟨B,d,rfl,hd,hmd,hB4⟩;have hbad:∀ (fr:List Td) (e:Env),(gQ a≠0∨gQ b≠0)→e 8=.pointer (some ⟨b8,0,none⟩)→go none Tryz.prog 50 v126.1 v126.2 (fW o126 fun v h=>∃ m,v=.int .i64 m∧lX a b ae be m) (Td.s ((SC.reg false c126r2).seq .ret) :: fr) e ⟨G4,[.blk b8 [.int .i64 0]],[]⟩:=fun fr e hbd e8=>by
  intros;refine gr 0 0 ?_;refine sJ2 c126r2.eq_1 @e8 ?_;refine dI [] [] rfl (by simp) ⟨rfl,rfl⟩ ?_;refine sI ?_
  (intros;try refine du ?_)
  refine dC (jE (Ai (b:=b8) (v:=.int .i64 0) ((eJ @e8)) (zN _ _ _)) ?_);exact⟨0,rfl,.inl ⟨hbd,rfl⟩⟩
 intros;refine gr 15 22 ?_;refine sJ c126r1.eq_1 ?_;refine⟨_,⟨_,rfl,.g e4⟩,?_⟩;refine sI ?_;refine(ja _ _ _ ha4 _ _).mono ?_;rintro v h' ⟨rfl,rfl⟩;refine sI ?_;refine gd (fun h1=>?_) (fun h1=>?_)
 ·refine sI ?_;intros;refine gc ?_;refine sI ?_;exact hbad _ _ (.inl (by simpa using h1)) (eE)
 refine sI ?_;refine⟨_,⟨_,rfl,.g e6⟩,?_⟩;refine sI ?_;refine(ja _ _ _ hb4' _ _).mono ?_;rintro v h' ⟨rfl,rfl⟩;refine sI ?_;intros;refine gc ?_;refine sI ?_;refine gb (fun h2=>?_) (fun h2=>?_)
 ·exact hbad _ _ (.inr (by simpa using h2)) (eE)
 have hca:gQ a=0:=by simpa using h1
 have hcb:gQ b=0:=by simpa using h2
 intros;refine gr 23 24 ?_;refine sJ c126r3.eq_1 ?_;refine⟨_,⟨_,rfl,.g e4⟩,?_⟩;refine sI ?_;refine(FB a A c G4 hc hm hA4 _ []).mono ?_;rintro r h' ⟨G5,rfl,hg5,b9,rfl,hit⟩;refine sI ?_
 (intros;try refine du ?_)
 have fin:∀ (m:Int) (G6:Nat→Option Obj) (D:List Nat) (e:Env),lX a b ae be m→e 8=.pointer (some ⟨b8,0,none⟩)→fW o126 (fun v (h:H)=>∃ m,v=.int .i64 m∧lX a b ae be m) .ret e ⟨G6,[.blk b8 [.int .i64 m]],D⟩:=fun m G6 D e hm e8 =>
  jE (Ai (b:=b8) (v:=.int .i64 m) e8 (zN _ _ _)) ⟨m,rfl,hm⟩
 refine qA (α:=Nat) (fun t G' L'=>L'=[.blk b8 [.int .i64 0]]∧∀ (t':Nat) (x:Ep) (k:Nat) (y:Ep),t' < t→a[a.length - 1 - t']?=some x→b[k]?=some y→x.1≠y.1)
  (fun ex t G' L'=>ex=.ret∧∃ m,L'=[.blk b8 [.int .i64 m]]∧lX a b ae be m) (eE) F182.enters (dA dt) (fun _ _ _ _ _ h=>h) hit (fun G x args h=>by obtain⟨y,_,_,_,rfl⟩:=h;rfl) ⟨rfl,fun t' x k y h=>absurd h (by omega)⟩ ?_ ?_ ?_
 ·rintro yl t i args G' L' hti hgl ⟨x,hx,i1,i2,rfl⟩ ⟨rfl,hno⟩ _;obtain⟨htl,rfl⟩:=Dt hti;have hg6:Gle G4 G':=hg5.trans hgl;have e4':=dJ hg6 e4;have e5':=dJ hg6 e5;have e6':=dJ hg6 e6;have e7':=dJ hg6 e7;have ha5:=ha4.le hg6 fun _ _ h=>h
  have hb5:=hb4'.le hg6 fun _ _ h=>h
  have hokx:=vm hca hx;have hx0:0≤x.1:=by simp[okE]at hokx;omega
  have hx64:I64 x.1:=i1;refine sI ?_;intros;refine gr 0 0 ?_;refine sJ c126r4.eq_1 ?_;intro bb;refine fN (rc ?_);intros;refine gr 27 35 ?_;refine sJ c126r5.eq_1 ?_;refine⟨_,⟨_,rfl,.g e6'⟩,?_⟩;refine sI ?_;refine⟨_,⟨_,rfl,.g e7'⟩,?_⟩;refine sI ?_;refine(ph _ x.1 be _ G' hb5 hlb _ _).mono ?_;rintro v h' ⟨⟨w,o,rfl,hw⟩,rfl⟩;have hcom:=qQ hcb hx0 hw;refine sI ?_
  intros;refine gr 35 38 ?_;refine sJ c126r6.eq_1 ?_;intros;refine gc ?_;refine sI ?_;refine gb (fun h3=>?_) (fun h3=>?_)
  ·have hwx:w=x.1:=by simpa using h3
   obtain⟨k,y,hy,hxy,ho⟩:∃ (k:Nat) (y:Ep),b[k]?=some y∧x.1=y.1∧o=CS b k be:=by
    rcases hcom with⟨_,h⟩ | ⟨h,_⟩
    ·exact h
    ·exact absurd hwx h
   intros;refine gr 39 47 ?_;refine sJ c126r7.eq_1 ?_;refine⟨_,⟨_,rfl,.g e4'⟩,?_⟩;refine sI ?_;refine⟨_,⟨_,rfl,.g e5'⟩,?_⟩;refine sI ?_;refine(ph _ x.1 ae _ G' ha5 hla _ _).mono ?_;rintro v h' ⟨⟨w2,o2,rfl,hw2⟩,rfl⟩;obtain⟨rfl,ho2⟩:=uB hca hx hw2;refine sI ?_;have hmn:(if o < o2 then o else o2)=min o2 o:=by split <;> omega
   intros;refine gr 47 50 ?_;refine sJ2 c126r8.eq_1 @hmn ?_;refine dI [_] [] rfl (by simp) ⟨rfl,rfl⟩ ?_;refine sI ?_
   (intros;try refine du ?_)
   refine dC (F8 [.blk b8 [.int .i64 (min o2 o)]] (.cons _ (List.Sublist.refl _)) (dA dt) ⟨rfl,_,rfl,?_⟩);refine .inr ⟨hca,hcb,.inr ⟨_,x,k,y,hx,hy,hxy,fun i' x' k' y' hi hx' hy'=>?_,?_⟩⟩
   ·have hi':=(List.getElem?_eq_some_iff.1 hx').1;refine hno (a.length - 1 - i') x' k' y' (by omega) ?_ hy';rw[show a.length - 1 - (a.length - 1 - i')=i' by omega];exact hx'
   ·rw[ho,ho2];rfl
  ·have hwx:¬ w=x.1:=by simpa using h3
   (intros;try refine du ?_)
   refine fN (pR [.blk b8 [.int .i64 0]] (.cons _ (List.Sublist.refl _)) (dA dt) ⟨rfl,fun t' x' k y ht' hx' hy=>?_⟩);by_cases htt:t'=t
   ·subst htt;rw[hx]at hx';cases hx';rcases hcom with⟨h,_⟩ | ⟨_,h⟩
    ·exact absurd h hwx
    ·exact h k y hy
   ·exact hno t' x' k y (by omega) hx' hy
 ·rintro G' L' dd hgl ⟨rfl,hno⟩ _;intros;refine gr 0 0 ?_;refine sJ c126r9.eq_1 ?_;refine dI [] [] rfl (by simp) ⟨rfl,rfl⟩ ?_;refine sI ?_
  (intros;try refine du ?_)
  refine dC (fin 0 _ _ _ (.inr ⟨hca,hcb,.inl ⟨fun i x k y hx hy=>?_,rfl⟩⟩) (eE));have hi:=(List.getElem?_eq_some_iff.1 hx).1;refine hno (a.length - 1 - i) x k y (by simp;omega) ?_ hy;rw[show a.length - 1 - (a.length - 1 - i)=i by omega];exact hx
 ·rintro ex t G' L' dd _ hgl ⟨rfl,m,rfl,hmm⟩ _;rw[zR];exact fin m _ _ _ hmm (eE)
theorem Cm{l:List Ep}(h:gQ l=0){i k:Nat}{x y:Ep}(hx:l[i]?=some x)(hy:l[k]?=some y)(he:x.1=y.1):i=k:=by
 rcases Nat.lt_trichotomy i k with h1 | h1 | h1
 ·have:=(jt h h1 hx hy).1;omega
 ·exact h1
 ·have:=(jt h h1 hy hx).1;omega
theorem pb{a b:List Ep}{ae be m m':Int}(h:lX a b ae be m)(h':lX a b ae be m'):m=m':=by
 rcases h with⟨h1,rfl⟩ | ⟨h1,h2,h3⟩ <;> rcases h' with⟨h1',rfl⟩ | ⟨h1',h2',h3'⟩
 ·rfl
 ·rcases h1 with h | h
  ·exact absurd h1' h
  ·exact absurd h2' h
 ·rcases h1' with h | h
  ·exact absurd h1 h
  ·exact absurd h2 h
 ·rcases h3 with⟨h4,rfl⟩ | ⟨i,x,k,y,hx,hy,hxy,hm,rfl⟩ <;> rcases h3' with⟨h4',rfl⟩ | ⟨i',x',k',y',hx',hy',hxy',hm',rfl⟩
  ·rfl
  ·exact absurd hxy' (h4 _ _ _ _ hx' hy')
  ·exact absurd hxy (h4' _ _ _ _ hx hy)
  ·have e:i=i':=by
    rcases Nat.lt_trichotomy i i' with h | h | h
    ·exact absurd hxy' (hm _ _ _ _ h hx' hy')
    ·exact h
    ·exact absurd hxy (hm' _ _ _ _ h hx hy)
   subst e;rw[hx]at hx';cases hx';have e:=Cm h2 hy hy' (by omega);subst e;rfl
theorem vi{a b:List Ep}{ae be m:Int}(h:lX a b ae be m)(hz:gQ a≠0∨gQ b≠0∨a=[]∨b=[]):m=0:=by
 rcases h with⟨h1,rfl⟩ | ⟨h1,h2,h3⟩
 ·rfl
 ·rcases h3 with⟨_,rfl⟩ | ⟨i,x,k,y,hx,hy,_,_,rfl⟩
  ·rfl
  ·rcases hz with h | h | h | h
   ·exact absurd h1 h
   ·exact absurd h2 h
   ·subst h;simp at hx
   ·subst h;simp at hy
theorem F119:Fun Tryz.prog 119 8 v119 c119 o119:=Fun.mkA Tryz.func119 Tryz.ntmps119
theorem F67:Fun Tryz.prog 67 60 v67 c67 o67:=Fun.mkA Tryz.func67 Tryz.ntmps67
theorem RR1:∀ (x:Rec) cs,RR x cs→∀ u∈cs,u.oneCell'=true:=fun x cs h u hu=>by
 rw[h.1]at hu;simp[gV]at hu;rcases hu with rfl | rfl | rfl | rfl | rfl <;> rfl
def nT(x:Batch)(L':List Kx.Item)(cs:List Value):Prop:=∃ u zc,cs=eS x u∧L'=[.row u 103 5 x.recs.length zc]∧Cells RR 5 x.recs zc∧I64 x.base∧I64 x.last∧I64 x.src∧I64 x.epoch∧I64 x.pid∧I64 x.gen∧I64 x.seq∧I64 x.ctl
theorem nT.gx{x:Batch}{G:Nat→Option Obj}{L' L:List Kx.Item}{D:List Nat}{cs:List Value}(h:nT x L' cs):ez ⟨G,L'++L,D⟩ fun h'=>∃ G',h'=⟨G',L,D⟩∧Gle G G'∧BE G' x cs:=by
 obtain⟨u,zc,rfl,rfl,hc,hi⟩:=h;refine(kn (by decide) hc).mono ?_;rintro h' ⟨G',rfl,hg,A,c,rfl,h1,h2,h3⟩;exact⟨G',rfl,hg,A,c,rfl,⟨h1,h2,h3⟩,hi⟩
theorem vf(l:List Rec)(v:Value)(G:Nat→Option Obj)(hl:SlV G RR 5 v l)(hb:l.length≤1000):FnO Tryz.prog 119 #[v] G [] (fun _ L' r=>xH RR 103 5 l L' r):=by
 refine F119.fnO (by simp) dt (dF ?_);have hl0:=hl;obtain⟨A,c,rfl,hc,hm,hA⟩:=hl;unfold c119;intros;refine gr 0 0 ?_;refine sJ c119r0.eq_1 ?_;intros;refine gr 3 4 ?_;refine sJ c119r1.eq_1 ?_;intros;refine gc ?_;refine sI ?_;refine gb (fun ht=>?_) (fun ht=>?_)
 ·intros;refine gr 0 0 ?_;refine sJ c119r2.eq_1 ?_
  (intros;try refine du ?_)
  have hA0:l=[]:=by
   match l,hA with
   | [],_=>rfl
   | x :: xs,hA=>obtain⟨a,_,ha,_⟩:=hA 0 x rfl;subst ha;cases ht
  subst hA0;refine dx (dR none 103 5) ?_;refine dC (dG _ rfl (List.Sublist.refl _) (dw dt) ?_);exact⟨[],.nil,rfl⟩
 ·intros;refine gN ?_;intros;refine gr 5 8 ?_;refine sJ c119r3.eq_1 ?_;intro b hb';refine l5 (.inr ⟨⟨_,rfl⟩,rfl,rfl,rfl,rfl⟩) hl0 rfl RR1 ⟨by omega,by unfold maxLen;omega⟩ fun ys A c hc=>?_
  simp only[Nat.zero_add];refine sI ?_
  (intros;try refine du ?_)
  refine dC (dG _ rfl (List.Sublist.refl _) (dw dt) ?_);exact⟨ys,hc,rfl⟩
theorem Ci{α:Type}{P:Program}{f:FuncId}{args:Array Value}{G:Nat→Option Obj}{E:α→List Value→Prop}{et sz:Nat}{zs:List α}(hf:FnO P f args G [] (fun _ L' r=>xH E et sz zs L' r)):
  FnO P f args G [] (fun _ L' r=>∃ A c ys,r=.slice A zs.length c∧(zs.length≤c∧c≤maxLen)∧Cells E sz zs ys∧L'=[.row r et sz zs.length ys]):=fun L D =>
 (hf L D).gx fun v h' ⟨G',L',he,hg,ys,hc,hL⟩=>by
  subst he hL;exact(gK (.head _)).mono fun h' ⟨h1,A,c,h2,h3,h4⟩=>⟨G',_,h1,hg,A,c,ys,h2,⟨h3,h4⟩,hc,rfl⟩
def um(by_:Int)(r:Rec):Rec:=⟨r.off+by_,r.key,r.val,r.dead,r.stamp⟩
def tY(x:Batch)(base:Int):Batch:=⟨base,x.last+(base - x.base),x.src,x.epoch,x.pid,x.gen,x.seq,x.txn,x.ctl,x.recs.map (um (base - x.base))⟩
def eW(x:Batch)(base:Int):Batch × Int:=if rng 1099511627776 base=true then(if fp x=0 then(if fp (tY x base)=0 then(tY x base,0)else(kj,fp (tY x base)))else(kj,fp x))else(kj,1)
def GP(p:Batch × Int)(L':List Kx.Item)(r:Value):Prop:=∃ cs,r=.tuple #[.agg cs.toArray,.int .i64 p.2]∧nT p.1 L' cs
theorem nT.none:nT kj [.row (.slice none 0 0) 103 5 0 []] [.int .i64 0,.int .i64 0,.int .i64 0,.int .i64 0,.int .i64 0,.int .i64 0,.int .i64 0,.bool false,.int .i64 0,.slice none 0 0]:=⟨_,[],rfl,rfl,.nil,by decide,by decide,by decide,by decide,by decide,by decide,by decide,by decide⟩
theorem zF{l:List Rec}{f:Rec→Rec}{k:Nat}{r:Rec}(hr:l[k]?=some r):((l.map f).take k++l.drop k).set k (f r)=(l.map f).take (k+1)++l.drop (k+1):=by
 have h:=List.getElem?_eq_some_iff.1 hr;have hk:k < (l.map f).length:=by simpa using h.1
 have hl:((l.map f).take k).length=k:=by have:=h.1;simp;omega
 rw[List.set_append_right _ _ (by omega),hl,Nat.sub_self,List.drop_eq_getElem_cons h.1,List.set_cons_zero,List.take_succ_eq_append_getElem hk,List.append_assoc];congr 2;simp[h.2]
theorem BU{l:List Rec}{f:Rec→Rec}{k:Nat}{r:Rec}(hr:l[k]?=some r):((l.map f).take k++l.drop k)[k]?=some r:=by
 have h:=List.getElem?_eq_some_iff.1 hr;have hl:((l.map f).take k).length=k:=by have:=h.1;simp;omega
 rw[List.getElem?_append_right (by omega),hl,Nat.sub_self,List.getElem?_drop,Nat.add_zero,hr]
theorem CA{by_:Int}{r:Rec}(h:RR r (gV r))(hi:I64 (r.off+by_)):RR (um by_ r) (gV (um by_ r)):=⟨rfl,⟨hi,h.2.1.2⟩,h.2.2⟩
set_option maxHeartbeats 1000000 in
theorem zC(x:Batch)(base:Int)(cs:List Value)(G:Nat→Option Obj)(hx:BE G x cs)(hbi:I64 base):FnO Tryz.prog 67 #[.agg cs.toArray,.int .i64 base] G [] (fun _ L' r=>GP (eW x base) L' r):=by
 have hck:=kF x cs G hx;have hx0:=hx;obtain⟨A,c,rfl,⟨hc,hm,hA⟩,i1,i2,i3,i4,i5,i6,i7,i8⟩:=hx;refine F67.fnO (by simp) dt (dF ?_);unfold c67;unfold eS at hck ⊢;have hrow:=fun v=>lB 1099511627776 base [] v 1 _ (.one (cs:=[.int .i64 base]) ⟨rfl,hbi⟩ rfl) G
 rw[show([base]:List Int).all (rng 1099511627776)=rng 1099511627776 base by simp]at hrow;intros;refine gr 0 0 ?_;refine sJ c67r0.eq_1 ?_;intros;refine gr 10 13 ?_;refine sJ c67r1.eq_1 ?_;intro b1 hb1;refine(hrow _ _ _).mono ?_;rintro _ _ ⟨rfl,rfl⟩;refine sI ?_;intros;refine gc ?_;refine sI ?_;refine gb (fun k1=>?_) (fun k1=>?_)
 ·have k1:¬ rng 1099511627776 base=true:=by simpa using k1
  intros;refine gr 14 15 ?_;refine sJ c67r2.eq_1 ?_
  (intros;try refine du ?_)
  refine dx (dR none 103 5) ?_;refine dC (dG _ rfl (.cons_cons _ (List.nil_sublist _)) (dw dt) ?_);rw[eW,if_neg k1];exact⟨[.int .i64 0,.int .i64 0,.int .i64 0,.int .i64 0,.int .i64 0,.int .i64 0,.int .i64 0,.bool false,.int .i64 0,.slice none 0 0],rfl,nT.none⟩
 have k1:rng 1099511627776 base=true:=by simpa using k1
 have k1':0≤base∧base≤1099511627776:=by simpa [rng]using k1
 intros;refine gN ?_;intros;refine gr 15 17 ?_;refine sJ c67r3.eq_1 ?_;refine(hck _ _).mono ?_;rintro _ _ ⟨rfl,rfl⟩;refine sI ?_;intros;refine gr 17 18 ?_;refine sJ c67r4.eq_1 ?_;intros;refine gc ?_;refine sI ?_;refine gb (fun k2=>?_) (fun k2=>?_)
 ·have k2:=of_decide_eq_true k2;intros;refine gr 19 21 ?_;refine sJ c67r5.eq_1 ?_
  (intros;try refine du ?_)
  refine dx (dR none 103 5) ?_;refine dC (dG _ rfl (.cons_cons _ (List.nil_sublist _)) (dw dt) ?_);rw[eW,if_pos k1,if_neg k2];exact⟨[.int .i64 0,.int .i64 0,.int .i64 0,.int .i64 0,.int .i64 0,.int .i64 0,.int .i64 0,.bool false,.int .i64 0,.slice none 0 0],rfl,nT.none⟩
 have k2:fp x=0:=by simpa using k2
 have hmv:eW x base=if fp (tY x base)=0 then(tY x base,0)else(kj,fp (tY x base)):=by rw[eW,if_pos k1,if_pos k2]
 obtain⟨hf,-⟩:=iP k2;obtain⟨hrc,hrl⟩:=kH hf;obtain⟨⟨f1,f2,-⟩,-,⟨f7,f8,-,-⟩,-⟩:=hf;simp[rng]at f1 f2;have w1:IntKind.i64.wrap (base - x.base)=base - x.base:=by rw[dU] <;> omega
 have w2:IntKind.i64.wrap (x.last+(base - x.base))=x.last+(base - x.base):=by rw[dU] <;> omega
 have hlast:I64 (x.last+(base - x.base)):=by unfold I64;omega
 have hby:-1099511627776≤base - x.base∧base - x.base≤1099511627776:=by omega
 have hmb:tY x base=⟨base,x.last+(base - x.base),x.src,x.epoch,x.pid,x.gen,x.seq,x.txn,x.ctl,x.recs.map (um (base - x.base))⟩:=rfl;intros;refine gN ?_;intros;refine gr 21 25 ?_;refine sJ2 c67r6.eq_1 @w1 ?_;intros;try refine dv ?_
 refine dx (dD (L':=[.reg 4 [.int .i64 0,.int .i64 0,.int .i64 0,.int .i64 0,.int .i64 0,.int .i64 0,.int .i64 0,.bool false,.int .i64 0,.slice none 0 0],.reg 2 [.int .i64 x.base,.int .i64 x.last,.int .i64 x.src,.int .i64 x.epoch,.int .i64 x.pid,.int .i64 x.gen,.int .i64 x.seq,.bool x.txn,.int .i64 x.ctl,.slice A x.recs.length c]]) (.cons _ (List.Sublist.refl _))) ?_
 (intros;try refine du ?_);refine qm _ (List.Sublist.refl _) (by decide) ?_;refine sJ2 c67r7.eq_1 @w2 ?_
 refine(Ci (vf x.recs _ G ⟨A,c,rfl,hc,hm,hA⟩ (by omega)) _ []).mono ?_;rintro u h' ⟨G1,L',rfl,hg1,A',c',zc,rfl,⟨hc1',hc2'⟩,hzc,rfl⟩;refine⟨dK hg1 (.cons _ (List.Sublist.refl _)),?_⟩;refine sI ?_;refine fO ?_;refine sI ?_;refine fO ?_;refine sI ?_;intros;have hmvl:(x.recs.map (um (base - x.base))).length=x.recs.length:=by simp
 intros;try refine dv ?_
 refine eA (fun e h=>∃ (zc':List Value),Cells RR 5 (x.recs.map (um (base - x.base))) zc'∧h=⟨G1,[.row (.slice A' x.recs.length c') 103 5 x.recs.length zc',.reg 4 [.int .i64 0,.int .i64 0,.int .i64 0,.int .i64 0,.int .i64 0,.int .i64 0,.int .i64 0,.bool false,.int .i64 0,.slice none 0 0],.reg 2 [.int .i64 base,.int .i64 (x.last+(base - x.base)),.int .i64 x.src,.int .i64 x.epoch,.int .i64 x.pid,.int .i64 x.gen,.int .i64 x.seq,.bool x.txn,.int .i64 x.ctl,.slice A' x.recs.length c']],[]⟩) ?_ ?_
 ·intros;refine gr 37 38 ?_;refine sJ c67r8.eq_1 ?_
  (intros;try refine du ?_)
  refine dW (fun e h=>∃ (k:Nat) (zc':List Value),(k≤x.recs.length∧Cells RR 5 ((x.recs.map (um (base - x.base))).take k++x.recs.drop k) zc')∧e 39=.int .i64 k∧e 38=.int .i64 x.recs.length∧e 7=.int .i64 (base - x.base)∧h=⟨G1,[.row (.slice A' x.recs.length c') 103 5 x.recs.length zc',.reg 4 [.int .i64 0,.int .i64 0,.int .i64 0,.int .i64 0,.int .i64 0,.int .i64 0,.int .i64 0,.bool false,.int .i64 0,.slice none 0 0],.reg 2 [.int .i64 base,.int .i64 (x.last+(base - x.base)),.int .i64 x.src,.int .i64 x.epoch,.int .i64 x.pid,.int .i64 x.gen,.int .i64 x.seq,.bool x.txn,.int .i64 x.ctl,.slice A' x.recs.length c']],[]⟩) (fun e h=>x.recs.length - iv (e 39)) ?_ ?_
  ·exact⟨0,zc,⟨Nat.zero_le _,by simpa using hzc⟩,eE,eE,eE,rfl⟩
  ·rintro e h ⟨k,zc',⟨hk,hcs⟩,e39,e38,e7,rfl⟩;refine dz [7,38,39] ?_;refine sJ3 @e7 @e38 @e39 ?_;intros;refine gr 0 0 ?_;refine sJ c67r9.eq_1 ?_;intros;refine gc ?_;refine sI ?_;refine gb (fun ht=>?_) (fun ht=>?_)
   ·have ht:k < x.recs.length:=by have:=of_decide_eq_true ht;omega
    have hw:=fz k c' (by omega) hc2';obtain⟨r,hr⟩:∃ r,x.recs[k]?=some r:=⟨x.recs[k],List.getElem?_eq_getElem (by omega)⟩;have hget:=BU (f:=um (base - x.base)) hr;have hset:=zF (f:=um (base - x.base)) hr;have hch:=fC (hrc r (List.mem_of_getElem? hr));have hoff:=fP.1 hch.1.1;have w3:IntKind.i64.wrap (r.off+(base - x.base))=r.off+(base - x.base):=by rw[dU] <;> omega
    obtain⟨cs0,hE0,hl0,hcell⟩:=hcs.get hget;have hv0:=hcell 0 (.int .i64 r.off) (by rw[hE0.1];rfl);rw[Nat.add_zero]at hv0;have hnew:=hcs.setF (o:=0) (us:=[.int .i64 (r.off+(base - x.base))]) (x':=um (base - x.base) r) hget (by simp) (fun cs hE hl=>by
     have h1:=hE.1
     subst h1
     exact CA ⟨rfl,hE.2⟩ (by unfold I64;omega))
    rw[hset,Nat.add_zero]at hnew;intros;refine gN ?_;intros;refine gr 41 42 ?_;refine sJ c67r10.eq_1 ?_
    (intros;try refine du ?_)
    refine ed (kq (v:=.slice A' x.recs.length c') (.head _) (by omega)) ?_;rintro h' ⟨rfl,g,c0,hA,-,-⟩;cases hA;intros;refine gr 43 52 ?_;refine sJ c67r11.eq_1 ?_;refine⟨by omega,_,rfl,?_⟩;rw[es,es,Nat.zero_add];refine⟨_,eR (.head _) (by simpa using hv0),?_⟩;refine sJ2 @w3 @Nat.zero_add ?_;refine⟨by omega,_,rfl,?_⟩;rw[es,es,Nat.zero_add]
    refine fF [] [_,_] rfl (by have:=hcs.len;simp at this ⊢;omega) ⟨rfl,rfl⟩ ?_;refine sI ?_;intros;refine gr 52 53 ?_;refine sJ c67r12.eq_1 ?_
    (intros;try refine du ?_)
    refine eh ⟨⟨k+1,_,⟨by omega,hnew⟩,(eJ @hw),eE,eE,rfl⟩,?_⟩;refine sJ @hw ?_;omega
   ·have ht:k=x.recs.length:=by have:=of_decide_eq_false ht;omega
    subst ht;rw[List.take_of_length_le (by omega),List.drop_length,List.append_nil]at hcs;refine dT ?_;refine sI ?_;exact eh ⟨zc',hcs,rfl⟩
 rintro e h ⟨zc',hcs,rfl⟩
 have hck':∀ L D,ee Tryz.prog 118 #[.agg #[.int .i64 base,.int .i64 (x.last+(base - x.base)),.int .i64 x.src,.int .i64 x.epoch,.int .i64 x.pid,.int .i64 x.gen,.int .i64 x.seq,.bool x.txn,.int .i64 x.ctl,.slice A' x.recs.length c']] ⟨G1,.row (.slice A' x.recs.length c') 103 5 x.recs.length zc' :: L,D⟩ fun r h'=>r=.int .i64 (fp (tY x base))∧h'=⟨G1,.row (.slice A' x.recs.length c') 103 5 x.recs.length zc' :: L,D⟩:=fun L D =>
  DV (E:=RR) (xs:=x.recs.map (um (base - x.base))) (R:=fun r=>r=.int .i64 (fp (tY x base))) F118.enters (by decide) hcs fun G' hg hx=>by
   obtain⟨A2,c2,hv,h1,h2,h3⟩:=hx;rw[hmvl]at hv;injection hv with e1 e2 e3
   subst e1 e3;exact kF (tY x base) [.int .i64 base,.int .i64 (x.last+(base - x.base)),.int .i64 x.src,.int .i64 x.epoch,.int .i64 x.pid,.int .i64 x.gen,.int .i64 x.seq,.bool x.txn,.int .i64 x.ctl,.slice A' x.recs.length c'] G' ⟨A',c',by simp[eS,hmb],⟨h1,h2,h3⟩,hbi,hlast,i3,i4,i5,i6,i7,i8⟩ _ _
 intros;intros;refine gr 53 55 ?_;refine sJ c67r13.eq_1 ?_;refine(hck' _ _).mono ?_;rintro _ _ ⟨rfl,rfl⟩;refine sI ?_;intros;refine gr 55 56 ?_;refine sJ c67r14.eq_1 ?_;intros;refine gc ?_;refine sI ?_;refine gb (fun k3=>?_) (fun k3=>?_)
 ·have k3:=of_decide_eq_true k3;intros;refine gr 57 59 ?_;refine sJ c67r15.eq_1 ?_
  (intros;try refine du ?_)
  refine dx (dR none 103 5) ?_;refine dC (dG _ rfl (.cons_cons _ (List.nil_sublist _)) (dw dt) ?_);rw[hmv,if_neg k3];exact⟨[.int .i64 0,.int .i64 0,.int .i64 0,.int .i64 0,.int .i64 0,.int .i64 0,.int .i64 0,.bool false,.int .i64 0,.slice none 0 0],rfl,nT.none⟩
 have k3:fp (tY x base)=0:=by simpa using k3
 intros;refine gN ?_;intros;refine gr 59 60 ?_;refine sJ c67r16.eq_1 ?_
 (intros;try refine du ?_)
 refine dC (dG _ rfl (.cons_cons _ (List.nil_sublist _)) (dw dt) ?_);rw[hmv,if_pos k3];exact⟨_,rfl,.slice A' x.recs.length c',zc',by simp[eS,hmb],by simp[hmb],hcs,hbi,hlast,i3,i4,i5,i6,i7,i8⟩
end Go.Proofs.YtpmofpekcbghnaaGreat
namespace Go.Proofs.YtpmofpekcbghnaaGreat
open Go Go.Kx
structure Rp where
 id:Int
 up:Bool
 log:Lg
 eps:List Ep
 high:Int
structure Pt where
 epoch:Int
 leader:Int
 least:Int
 isr:List Int
 reps:List Rp
def iz:Pt:=⟨0,0,0,[],[]⟩
def idI(n:Int):Bool:=decide (0≤n) && decide (n≤1048576)
def fm(l:List Int):Prop:=l≠[]∧(∀ n∈l,idI n=true)∧l.Pairwise (· < ·)
def nZ(r:Rp):Lg:=if r.up=true then r.log else(ia r.log).1
def okR(r:Rp):Prop:=(idI r.id=true∧gQ r.eps=0∧0≤r.high∧r.high≤1099511627777)∧fj (nZ r)=0∧(r.up=true→r.high≤eD r.log)
def fM(l:List Rp):List Int:=l.map (·.id)
def okP(p:Pt):Prop:=(idI p.epoch=true∧fm (fM p.reps)∧p.reps.length≤5∧(1≤p.least∧p.least≤(p.reps.length:Int))∧∀ r∈p.reps,okR r) ∧
 (fm p.isr∧∀ n∈p.isr,n∈fM p.reps)∧(p.leader=-1∨(∃ r∈p.reps,r.id=p.leader∧r.up=true)∧p.leader∈p.isr)
open Classical in
noncomputable def fa(p:Pt):Int:=if okP p then 0 else 1
theorem jO{p:Pt}(h:fa p=0):okP p:=by
 unfold fa at h;split at h
 ·assumption
 ·cases h
def atR:List Rp→Int→Option Nat
 | [],_=>none
 | r :: l,n=>if r.id=n then some 0 else(atR l n).map (· + 1)
theorem gW:∀ {l:List Rp} {n:Int} {k:Nat},atR l n=some k→∃ r,l[k]?=some r∧r.id=n
 | [],_,_,h=>by cases h
 | r :: l,n,k,h=>by
  rw[atR]at h;split at h
  ·rename_i h1;cases h;exact⟨r,rfl,h1⟩
  ·obtain⟨j,hj,rfl⟩:=Option.map_eq_some_iff.1 h;exact gW (l:=l) hj
theorem sg:∀ {l:List Rp} {n:Int},atR l n=none→∀ r∈l,r.id≠n
 | [],_,_,r,hr=>by cases hr
 | r :: l,n,h,x,hx=>by
  rw[atR]at h;split at h
  ·cases h
  ·rename_i h1;have h2:atR l n=none:=by simpa using h
   rcases List.mem_cons.1 hx with rfl | hx
   ·exact h1
   ·exact sg h2 x hx
theorem pi{l:List Rp}{n:Int}(h:n∈fM l):∃ k r,atR l n=some k∧l[k]?=some r∧r.id=n:=by
 cases hk:atR l n with
 | some k =>
  obtain⟨r,h1,h2⟩:=gW hk;exact⟨k,r,rfl,h1,h2⟩
 | none =>
  obtain⟨r,hr,rfl⟩:=List.mem_map.1 h;exact absurd rfl (sg hk r hr)
theorem mX{l:List Rp}(hs:(fM l).Pairwise (· < ·)){k:Nat}{r:Rp}(h:l[k]?=some r):atR l r.id=some k:=by
 obtain⟨j,x,h1,h2,h3⟩:=pi (l:=l) (n:=r.id) (List.mem_map.2 ⟨r,List.mem_of_getElem? h,rfl⟩);rw[h1];congr 1;have e1:(fM l)[k]?=some r.id:=by rw[fM,List.getElem?_map,h];rfl
 have e2:(fM l)[j]?=some r.id:=by rw[fM,List.getElem?_map,h2,← h3];rfl
 obtain⟨g1,e1⟩:=List.getElem?_eq_some_iff.1 e1;obtain⟨g2,e2⟩:=List.getElem?_eq_some_iff.1 e2;rw[List.pairwise_iff_getElem]at hs;rcases Nat.lt_trichotomy j k with h4 | h4 | h4
 ·have:=hs j k g2 g1 h4;omega
 ·exact h4
 ·have:=hs k j g1 g2 h4;omega
open Classical in
noncomputable def lY(a b:List Ep)(ae be:Int):Int:=if h:∃ m,lX a b ae be m then Classical.choose h else 0
theorem sj{a b:List Ep}{ae be m:Int}(h:lX a b ae be m):lY a b ae be=m:=by
 have h1:∃ m,lX a b ae be m:=⟨m,h⟩;rw[lY,dif_pos h1];exact pb (Classical.choose_spec h1) h
noncomputable def kD(x r:Rp):Int:=lY x.eps r.eps (eD x.log) (eD r.log)
noncomputable def mq(l:List Rp)(k:Nat)(r:Rp)(m n:Int):Int :=
 match atR l n with
 | some i=>if i=k then m else min m (match l[i]? with | some x=>kD x r | none=>m)
 | none=>m
noncomputable def fD(l:List Rp)(k:Nat)(r:Rp)(m:Int)(is:List Int):Int:=is.foldl (mq l k r) m
noncomputable def dS(p:Pt):Pt :=
 if p.leader < 0 then p else match atR p.reps p.leader with
 | none=>p
 | some k=>match p.reps[k]? with
  | none=>p
  | some r=>{ p with reps:=p.reps.set k { r with high:=max r.high (fD p.reps k r (eD r.log) p.isr) } }
noncomputable def It(p:Pt)(f:Pt→Pt × Int):Pt × Int:=if fa p=0 then(if (f p).2=0 then((f p).1,0)else(iz,(f p).2))else(iz,fa p)
noncomputable def ofP(p:Pt)(n:Int)(f:Pt→Nat→Rp→Pt × Int):Pt × Int:=It p fun p=>match atR p.reps n with
 | none=>(p,1)
 | some k=>match p.reps[k]? with
  | none=>(p,1)
  | some r=>f p k r
def fQ(p:Pt)(k:Nat)(r:Rp):Pt:={ p with reps:=p.reps.set k r }
noncomputable def iY(n:Int)(p:Pt)(k:Nat)(r:Rp):Pt × Int :=
 if p.leader < 0 then(p,180)else if n=p.leader∨n∉p.isr then(p,181)else(dS { p with isr:=p.isr.filter fun m=>decide (m≠n) },0)
def mF(s:Sg)(n:Int):Sg:=⟨s.base,s.bytes.take (s.bytes.length - (min n s.bytes.length).toNat)⟩
def lz(l:Lg)(n:Int):Lg:=⟨l.limit,l.start,l.segs.set (l.segs.length - 1) (mF (sQ l (l.segs.length - 1)) n)⟩
noncomputable def gu(n torn:Int)(p:Pt)(k:Nat)(r:Rp):Pt × Int :=
 if torn < 0 then(p,1)else if r.up=false then(p,180)else
  (dS ⟨p.epoch,if p.leader=n then -1 else p.leader,p.least,if 1 < p.isr.length then p.isr.filter fun m=>decide (m≠n)else p.isr,p.reps.set k { r with up:=false,log:=lz r.log torn }⟩,0)
noncomputable def pk(r:Rp):Rp:=⟨r.id,true,(ia r.log).1,nf r.eps (eD (ia r.log).1),min r.high (eD (ia r.log).1)⟩
noncomputable def jv(p:Pt)(k:Nat)(r:Rp):Pt × Int:=if r.up=true then(p,150)else(fQ p k (pk r),0)
noncomputable def fL(n:Int)(p:Pt)(k:Nat)(r:Rp):Pt × Int :=
 if r.up=false then(p,180)else if n∉p.isr then(p,181)else if p.epoch=1048576 then(p,2)else(dS { p with epoch:=p.epoch+1,leader:=n },0)
noncomputable def jI(b:Batch)(p:Pt):(Pt × Int) × Int :=
 if p.leader < 0 then((p,180),0)else if (p.isr.length:Int) < p.least then((p,181),0)else
  match atR p.reps p.leader with
  | none=>((p,0),0)
  | some k=>match p.reps[k]? with
   | none=>((p,0),0)
   | some r =>
    if (eW b (eD r.log)).2≠0 then((p,(eW b (eD r.log)).2),0)else
     let x:Batch:={ (eW b (eD r.log)).1 with epoch:=p.epoch }
     if (gR r.log x).2≠0 then((p,(gR r.log x).2),x.base)else
      if (iI r.eps p.epoch x.base).2≠0 then((p,(iI r.eps p.epoch x.base).2),x.base)else
       ((dS (fQ p k { r with log:=(gR r.log x).1,eps:=(iI r.eps p.epoch x.base).1 }),0),x.base)
noncomputable def m8(p:Pt)(b:Batch):(Pt × Int) × Int :=
 let q:=It p fun p=>(jI b p).1
 if q.2=0 then(q,(jI b p).2)else((iz,q.2),0)
def jw:Lg→List Batch→Lg × Bool
 | l,[]=>(l,true)
 | l,b :: bs=>if (gR l b).2=0 then jw (gR l b).1 bs else((gR l b).1,false)
def fc(l lead:Lg)(to:Int):Lg × Bool :=
 let x:=lZ l to
 if x.2≠0∨(iC lead).length < (iC x.1).length∨iC x.1≠(iC lead).take (iC x.1).length then(x.1,false)else
  jw x.1 ((iC lead).drop (iC x.1).length)
noncomputable def dN(r lead:Rp):Rp :=
 let m:=kD r lead
 let c:=fc r.log lead.log (min m (eD r.log))
 { r with log:=if r.log.start=lead.log.start∧r.log.start≤m∧c.2=true then c.1 else lead.log,eps:=lead.eps }
def ft:List Int→Int→List Int
 | [],n=>[n]
 | m :: l,n=>if m < n then m :: ft l n else if m=n then m :: l else n :: m :: l
noncomputable def hO(n:Int)(p:Pt)(k:Nat)(r:Rp):Pt × Int :=
 if p.leader < 0∨r.up=false then(p,180)else if n=p.leader then(p,0)else
  match atR p.reps p.leader with
  | none=>(p,0)
  | some j=>match p.reps[j]? with
   | none=>(p,0)
   | some lead =>
    let r1:=dN r lead
    let e:=eD r1.log
    let p1:Pt:={ p with isr:=if lead.high≤e then ft p.isr n else p.isr,reps:=p.reps.set k { r1 with high:=min r.high e } }
    let p2:=dS p1
    let lead2:=(p2.reps[j]?.getD lead)
    (fQ p2 k { r1 with high:=min (max (min r.high e) lead2.high) e },0)
noncomputable def kl(p:Pt):Int :=
 if fa p≠0 then 0 else if 0≤p.leader then(match atR p.reps p.leader with | some k=>(p.reps[k]?.map (·.high)).getD 0 | none=>0)
 else p.isr.foldl (fun m n=>max m (match atR p.reps n with | some k=>(p.reps[k]?.map (·.high)).getD 0 | none=>0)) 0
noncomputable def gT(p:Pt):Lg × Int :=
 if fa p≠0 then(gG,fa p)else if p.leader < 0 then(gG,180)else(match atR p.reps p.leader with | some k=>(p.reps[k]?.map (·.log)).getD gG | none=>gG,0)
open Classical in
noncomputable def z9(l:List Int)(limit least:Int):Pt × Int :=
 if (vA limit 0).2=0∧fm l∧l.length≤5∧1≤least∧least≤(l.length:Int)then(⟨1,l.headD 0,least,l,l.map fun n=>⟨n,true,(vA limit 0).1,[],0⟩⟩,0)else(iz,1)
end Go.Proofs.YtpmofpekcbghnaaGreat
namespace Go.Proofs.YtpmofpekcbghnaaGreat
open Go Go.Kx
theorem F59:Fun Tryz.prog 59 19 v59 c59 o59:=Fun.mkA Tryz.func59 Tryz.ntmps59
theorem F58:Fun Tryz.prog 58 9 v58 c58 o58:=Fun.mkA Tryz.func58 Tryz.ntmps58
theorem F109:Fun Tryz.prog 109 19 v109 c109 o109:=Fun.mkA Tryz.func109 Tryz.ntmps109
theorem F56:Fun Tryz.prog 56 9 v56 c56 o56:=Fun.mkA Tryz.func56 Tryz.ntmps56
theorem F107:Fun Tryz.prog 107 19 v107 c107 o107:=Fun.mkA Tryz.func107 Tryz.ntmps107
theorem F54:Fun Tryz.prog 54 9 v54 c54 o54:=Fun.mkA Tryz.func54 Tryz.ntmps54
theorem F105:Fun Tryz.prog 105 49 v105 c105 o105:=Fun.mkA Tryz.func105 Tryz.ntmps105
theorem F106:Fun Tryz.prog 106 9 v106 c106 o106:=Fun.mkA Tryz.func106 Tryz.ntmps106
def fH(r:Rp)(A:Option Addr)(c:Nat)(B:Option Addr)(d:Nat):List Value:=[.int .i64 r.id,.bool r.up,.int .i64 r.log.limit,.int .i64 r.log.start,.slice A r.log.segs.length c,.slice B r.eps.length d,.int .i64 r.high]
def RE(G:Nat→Option Obj)(r:Rp)(cs:List Value):Prop:=∃ A c B d,cs=fH r A c B d∧SlV G (SE G) 2 (.slice A r.log.segs.length c) r.log.segs∧SEp G (.slice B r.eps.length d) r.eps∧(I64 r.log.limit∧I64 r.log.start)∧I64 r.id∧I64 r.high
theorem RE.le{G G':Nat→Option Obj}(hg:Gle G G'){r:Rp}{cs:List Value}(h:RE G r cs):RE G' r cs:=by
 obtain⟨A,c,B,d,h1,h2,h3,h4⟩:=h;exact⟨A,c,B,d,h1,SlSE.le hg h2,h3.le hg fun _ _ h=>h,h4⟩
theorem SlR.le{G G':Nat→Option Obj}(hg:Gle G G'){v:Value}{l:List Rp}(h:SlV G (RE G) 7 v l):SlV G' (RE G') 7 v l:=h.le hg fun _ _ h=>RE.le hg h
theorem IE1:∀ (x:Int) cs,IE x cs→∀ u∈cs,u.oneCell'=true:=fun x cs h u hu=>by
 rw[h.1]at hu;simp at hu;rw[hu];rfl
theorem RE1{G:Nat→Option Obj}:∀ (x:Rp) cs,RE G x cs→∀ u∈cs,u.oneCell'=true:=fun x cs h u hu=>by
 obtain⟨A,c,B,d,rfl,-⟩:=h;simp[fH]at hu;rcases hu with rfl | rfl | rfl | rfl | rfl | rfl | rfl <;> rfl
theorem jd{α:Type}(p:α→Bool):∀ (l:List α) (i:Nat),decide (0≤fE p l i)=l.any p
 | [],i=>rfl
 | x :: l,i=>by
  rw[fE,List.any_cons];by_cases h:p x=true
  ·rw[if_pos h,h,Bool.true_or];simp
  ·rw[if_neg h,jd p l,show p x=false by simpa using h,Bool.false_or]
theorem ky{α:Type}(p:α→Bool):∀ (l:List α) (i:Nat),(fE p l i=-1∧∀ x∈l,p x=false)∨∃ k x,fE p l i=((i+k:Nat):Int)∧l[k]?=some x∧p x=true∧∀ y∈l.take k,p y=false
 | [],i=>.inl ⟨rfl,fun x h=>by cases h⟩
 | x :: l,i=>by
  rw[fE];by_cases h:p x=true
  ·rw[if_pos h];exact .inr ⟨0,x,rfl,rfl,h,fun y hy=>by simp at hy⟩
  ·rw[if_neg h];have h':p x=false:=by simpa using h
   rcases ky p l (i+1)with⟨h1,h2⟩ | ⟨k,y,h1,h2,h3,h4⟩
   ·exact .inl ⟨h1,fun z hz=>by rcases List.mem_cons.1 hz with rfl | hz;exact h';exact h2 z hz⟩
   ·refine .inr ⟨k+1,y,by rw[h1];congr 1;omega,h2,h3,fun z hz=>?_⟩;rw[List.take_succ_cons]at hz;rcases List.mem_cons.1 hz with rfl | hz
    ·exact h'
    ·exact h4 z hz
theorem zJ(l:List Int)(n:Int):(l.any fun y=>decide (n=y))=decide (n∈l):=by
 rw[Bool.eq_iff_iff];simp
theorem pS(l:List Int)(n:Int)(v:Value)(G:Nat→Option Obj)(hl:SlV G IE 1 v l):FnS Tryz.prog 59 #[v,.int .i64 n] G (.int .i64 (fE (fun y=>decide (n=y)) l 0)):=by
 obtain⟨A,c,rfl,hc,hmx,hA⟩:=hl;refine F59.fnS (by simp) (dF ?_);unfold c59;intros;refine gr 0 0 ?_;refine sJ c59r0.eq_1 ?_;intros;refine gr 6 7 ?_;refine sJ c59r1.eq_1 ?_
 (intros;try refine du ?_)
 refine dW (fun e h=>∃ k:Nat,(k≤l.length∧fE (fun y=>decide (n=y)) l 0=fE (fun y=>decide (n=y)) (l.drop k) k)∧e 8=.int .i64 k∧e 7=.int .i64 l.length∧e 0=.slice A l.length c∧e 1=.int .i64 n∧h=⟨G,[],[]⟩) (fun e h=>l.length - iv (e 8)) ?_ ?_
 ·exact⟨0,⟨Nat.zero_le _,rfl⟩,eE,eE,eE,eE,rfl⟩
 rintro e h ⟨k,⟨hk,hfi⟩,e8,e7,e0,e1,rfl⟩;refine dz [0,1,7,8] ?_;refine sJ4 @e0 @e1 @e7 @e8 ?_;intros;refine gr 0 0 ?_;refine sJ c59r2.eq_1 ?_;intros;refine gc ?_;refine sI ?_;refine gb (fun ht=>?_) (fun ht=>?_)
 ·have ht:k < l.length:=by have:=of_decide_eq_true ht;omega
  have hw:=fz k c (by omega) hmx;obtain⟨s,hs⟩:∃ s,l[k]?=some s:=⟨l[k],List.getElem?_eq_getElem (by omega)⟩;rw[my hs]at hfi;intros;refine gN ?_;intros;refine gr 10 11 ?_;refine sJ c59r3.eq_1 ?_;intros;refine gr 11 16 ?_;refine sJ c59r4.eq_1 ?_;refine hA.x_l1 hs rfl rfl ?_;rintro a1 ha1 u1 ⟨hu,-⟩;cases hu;refine sI ?_;intros;refine gc ?_;refine sI ?_;refine gb (fun k1=>?_) (fun k1=>?_)
  ·rw[if_pos k1]at hfi;intros;refine gr 17 18 ?_;refine sJ c59r5.eq_1 ?_;intros;refine rV ?_;simp only[push_cast,Nat.reduceBEq];rw[hfi]
  ·rw[if_neg (by rw[k1];simp)]at hfi;intros;refine gN ?_;intros;refine gr 18 19 ?_;refine sJ2 c59r6.eq_1 @hw ?_
   (intros;try refine du ?_)
   refine eh ⟨⟨k+1,⟨by omega,hfi⟩,eE,eE,eE,eE,rfl⟩,?_⟩;refine sI ?_;omega
 ·have ht:k=l.length:=by have:=of_decide_eq_false ht;omega
  subst ht;rw[List.drop_length,fE]at hfi;refine dT ?_;refine sI ?_;intros;refine gr 0 0 ?_;refine sJ c59r7.eq_1 ?_;intros;refine rV ?_;simp only[push_cast,Nat.reduceBEq];rw[hfi]
theorem jK(l:List Int)(n:Int)(v:Value)(G:Nat→Option Obj)(hl:SlV G IE 1 v l):FnS Tryz.prog 58 #[v,.int .i64 n] G (.bool (decide (n∈l))):=by
 have hd:decide (fE (fun y=>decide (n=y)) l 0≥0)=decide (n∈l):=by rw[← zJ,← jd _ l 0]
 refine F58.fnS (by simp) (dF ?_);unfold c58;intros;refine gr 0 0 ?_;refine sJ c58r0.eq_1 ?_;intros;refine gr 5 9 ?_;refine sJ c58r1.eq_1 ?_;refine(pS l n _ _ hl _ _).mono ?_;rintro _ _ ⟨rfl,rfl⟩;refine sI ?_;intros;refine rV ?_;simp only[push_cast,Nat.reduceBEq];rw[← zJ,← jd _ l 0]
theorem nK(l:List Int)(p:Int→Bool)(f:Nat)(cap:Array Value)(v:Value)(G:Nat→Option Obj)(hl:SlV G IE 1 v l)(hf:∀ s,s∈l→I64 s→FnS Tryz.prog f (#[.int .i64 s]++cap) G (.bool (p s))):
  FnS Tryz.prog 109 #[v,.func (.func f) #[] cap] G (.int .i64 (fE p l 0)):=by
 obtain⟨A,c,rfl,hc,hmx,hA⟩:=hl;refine F109.fnS (by simp) (dF ?_);unfold c109;intros;refine gr 0 0 ?_;refine sJ c109r0.eq_1 ?_;intros;refine gr 6 7 ?_;refine sJ c109r1.eq_1 ?_
 (intros;try refine du ?_)
 refine dW (fun e h=>∃ k:Nat,(k≤l.length∧fE p l 0=fE p (l.drop k) k)∧e 8=.int .i64 k∧e 7=.int .i64 l.length∧e 0=.slice A l.length c∧e 1=.func (.func f) #[] cap∧h=⟨G,[],[]⟩) (fun e h=>l.length - iv (e 8)) ?_ ?_
 ·exact⟨0,⟨Nat.zero_le _,rfl⟩,eE,eE,eE,eE,rfl⟩
 rintro e h ⟨k,⟨hk,hfi⟩,e8,e7,e0,e1,rfl⟩;refine dz [0,1,7,8] ?_;refine sJ4 @e0 @e1 @e7 @e8 ?_;intros;refine gr 0 0 ?_;refine sJ c109r2.eq_1 ?_;intros;refine gc ?_;refine sI ?_;refine gb (fun ht=>?_) (fun ht=>?_)
 ·have ht:k < l.length:=by have:=of_decide_eq_true ht;omega
  have hw:=fz k c (by omega) hmx;obtain⟨s,hs⟩:∃ s,l[k]?=some s:=⟨l[k],List.getElem?_eq_getElem (by omega)⟩;rw[my hs]at hfi;intros;refine gN ?_;intros;refine gr 10 11 ?_;refine sJ c109r3.eq_1 ?_;intros;refine gr 11 16 ?_;refine sJ c109r4.eq_1 ?_;refine hA.x_l1 hs rfl rfl ?_;rintro a1 ha1 u1 ⟨hu,hi⟩;cases hu;have hcl:=hf s (List.mem_of_getElem? hs) hi;refine sI ?_;refine .inl ⟨f,cap,rfl,?_⟩
  refine(hcl _ _).mono ?_;rintro _ _ ⟨rfl,rfl⟩;refine sI ?_;intros;refine gc ?_;refine sI ?_;refine gb (fun k1=>?_) (fun k1=>?_)
  ·rw[if_pos k1]at hfi;intros;refine gr 17 18 ?_;refine sJ c109r5.eq_1 ?_;intros;refine rV ?_;simp only[push_cast,Nat.reduceBEq];rw[hfi]
  ·rw[if_neg (by rw[k1];simp)]at hfi;intros;refine gN ?_;intros;refine gr 18 19 ?_;refine sJ2 c109r6.eq_1 @hw ?_
   (intros;try refine du ?_)
   refine eh ⟨⟨k+1,⟨by omega,hfi⟩,eE,eE,eE,eE,rfl⟩,?_⟩;refine sI ?_;omega
 ·have ht:k=l.length:=by have:=of_decide_eq_false ht;omega
  subst ht;rw[List.drop_length,fE]at hfi;refine dT ?_;refine sI ?_;intros;refine gr 0 0 ?_;refine sJ c109r7.eq_1 ?_;intros;refine rV ?_;simp only[push_cast,Nat.reduceBEq];rw[hfi]
theorem nQ(l:List Int)(p:Int→Bool)(f:Nat)(cap:Array Value)(v:Value)(G:Nat→Option Obj)(hl:SlV G IE 1 v l)(hf:∀ s,s∈l→I64 s→FnS Tryz.prog f (#[.int .i64 s]++cap) G (.bool (p s))):
  FnS Tryz.prog 56 #[v,.func (.func f) #[] cap] G (.bool (l.any p)):=by
 refine F56.fnS (by simp) (dF ?_);unfold c56;intros;refine gr 0 0 ?_;refine sJ c56r0.eq_1 ?_;intros;refine gr 5 9 ?_;refine sJ c56r1.eq_1 ?_;refine(nK l p f cap _ _ hl hf _ _).mono ?_;rintro _ _ ⟨rfl,rfl⟩;refine sI ?_;intros;refine rV ?_;simp only[push_cast,Nat.reduceBEq];rw[← jd p l 0]
theorem tI(l:List Rp)(p:Rp→Bool)(f:Nat)(cap:Array Value)(v:Value)(G:Nat→Option Obj)(hl:SlV G (RE G) 7 v l)(hf:∀ s cs,s∈l→RE G s cs→FnS Tryz.prog f (#[.agg cs.toArray]++cap) G (.bool (p s))):
  FnS Tryz.prog 107 #[v,.func (.func f) #[] cap] G (.int .i64 (fE p l 0)):=by
 obtain⟨A,c,rfl,hc,hmx,hA⟩:=hl;refine F107.fnS (by simp) (dF ?_);unfold c107;intros;refine gr 0 0 ?_;refine sJ c107r0.eq_1 ?_;intros;refine gr 6 7 ?_;refine sJ c107r1.eq_1 ?_
 (intros;try refine du ?_)
 refine dW (fun e h=>∃ k:Nat,(k≤l.length∧fE p l 0=fE p (l.drop k) k)∧e 8=.int .i64 k∧e 7=.int .i64 l.length∧e 0=.slice A l.length c∧e 1=.func (.func f) #[] cap∧h=⟨G,[],[]⟩) (fun e h=>l.length - iv (e 8)) ?_ ?_
 ·exact⟨0,⟨Nat.zero_le _,rfl⟩,eE,eE,eE,eE,rfl⟩
 rintro e h ⟨k,⟨hk,hfi⟩,e8,e7,e0,e1,rfl⟩;refine dz [0,1,7,8] ?_;refine sJ4 @e0 @e1 @e7 @e8 ?_;intros;refine gr 0 0 ?_;refine sJ c107r2.eq_1 ?_;intros;refine gc ?_;refine sI ?_;refine gb (fun ht=>?_) (fun ht=>?_)
 ·have ht:k < l.length:=by have:=of_decide_eq_true ht;omega
  have hw:=fz k c (by omega) hmx;obtain⟨s,hs⟩:∃ s,l[k]?=some s:=⟨l[k],List.getElem?_eq_getElem (by omega)⟩;rw[my hs]at hfi;intros;refine gN ?_;intros;refine gr 10 11 ?_;refine sJ c107r3.eq_1 ?_;intros;refine gr 11 16 ?_;refine sJ c107r4.eq_1 ?_;refine hA.x_ld hs rfl rfl ?_;rintro a1 ha1 cs hse;have hcl:=hf s cs (List.mem_of_getElem? hs) hse;obtain⟨B,d,B2,d2,rfl,-⟩:=hse;unfold fH at hcl ⊢
  refine sI ?_;refine .inl ⟨f,cap,rfl,?_⟩;refine(hcl _ _).mono ?_;rintro _ _ ⟨rfl,rfl⟩;refine sI ?_;intros;refine gc ?_;refine sI ?_;refine gb (fun k1=>?_) (fun k1=>?_)
  ·rw[if_pos k1]at hfi;intros;refine gr 17 18 ?_;refine sJ c107r5.eq_1 ?_;intros;refine rV ?_;simp only[push_cast,Nat.reduceBEq];rw[hfi]
  ·rw[if_neg (by rw[k1];simp)]at hfi;intros;refine gN ?_;intros;refine gr 18 19 ?_;refine sJ2 c107r6.eq_1 @hw ?_
   (intros;try refine du ?_)
   refine eh ⟨⟨k+1,⟨by omega,hfi⟩,eE,eE,eE,eE,rfl⟩,?_⟩;refine sI ?_;omega
 ·have ht:k=l.length:=by have:=of_decide_eq_false ht;omega
  subst ht;rw[List.drop_length,fE]at hfi;refine dT ?_;refine sI ?_;intros;refine gr 0 0 ?_;refine sJ c107r7.eq_1 ?_;intros;refine rV ?_;simp only[push_cast,Nat.reduceBEq];rw[hfi]
theorem ob(l:List Rp)(p:Rp→Bool)(f:Nat)(cap:Array Value)(v:Value)(G:Nat→Option Obj)(hl:SlV G (RE G) 7 v l)(hf:∀ s cs,s∈l→RE G s cs→FnS Tryz.prog f (#[.agg cs.toArray]++cap) G (.bool (p s))):
  FnS Tryz.prog 54 #[v,.func (.func f) #[] cap] G (.bool (l.any p)):=by
 refine F54.fnS (by simp) (dF ?_);unfold c54;intros;refine gr 0 0 ?_;refine sJ c54r0.eq_1 ?_;intros;refine gr 5 9 ?_;refine sJ c54r1.eq_1 ?_;refine(tI l p f cap _ _ hl hf _ _).mono ?_;rintro _ _ ⟨rfl,rfl⟩;refine sI ?_;intros;refine rV ?_;simp only[push_cast,Nat.reduceBEq];rw[← jd p l 0]
theorem uY(r:Rp)(n:Int)(cs:List Value)(G:Nat→Option Obj)(hr:RE G r cs):FnS Tryz.prog 106 #[.agg cs.toArray,.int .i64 n] G (.int .i64 (IntKind.i64.wrap (r.id - n))):=by
 obtain⟨A,c,B,d,rfl,-⟩:=hr;refine F106.fnS (by simp) (dF ?_);unfold c106 fH;intros;refine gr 0 0 ?_;refine sJ c106r0.eq_1 ?_;intros;refine gr 6 9 ?_;refine sJ c106r1.eq_1 ?_;intros;refine rV ?_;simp only[push_cast,Nat.reduceBEq]
theorem HW{a b:Int}(ha:I64 a)(hb:I64 b):IntKind.i64.wrap (a - b)=0↔a=b:=by
 unfold I64 at ha hb;rw[IntKind.wrap_i64];omega
theorem rz(l:List Rp)(n:Int)(v:Value)(G:Nat→Option Obj)(hl:SlV G (RE G) 7 v l)(hn:I64 n)(hs:(fM l).Pairwise (· < ·))(hid:∀ r∈l,idI r.id=true):
  FnE Tryz.prog 105 #[v,.int .i64 n,.func (.func 106) #[] #[]] G (fun r=>∃ j:Nat,r=.tuple #[.int .i64 j,.bool (atR l n).isSome]∧j≤l.length∧∀ k,atR l n=some k→j=k):=by
 obtain⟨A,c,rfl,hc,hmx,hA⟩:=hl;have hmono:∀ (i k:Nat) (x y:Rp),i < k→l[i]?=some x→l[k]?=some y→x.id < y.id:=fun i k x y hik hx hy=>by
  obtain⟨g1,e1⟩:=List.getElem?_eq_some_iff.1 hx;obtain⟨g2,e2⟩:=List.getElem?_eq_some_iff.1 hy;rw[List.pairwise_iff_getElem]at hs;have:=hs i k (by simpa [fM]using g1) (by simpa [fM]using g2) hik;simpa [fM,e1,e2]using this
 have hrng:∀ (k:Nat) (x:Rp),l[k]?=some x→0≤x.id∧x.id≤1048576:=fun k x hx=>by
  have:=hid x (List.mem_of_getElem? hx);simpa [idI]using this
 refine F105.fnE (by simp) (dF ?_);unfold c105;intros;refine gr 0 0 ?_;refine sJ c105r0.eq_1 ?_;intros;refine gr 12 14 ?_;refine sJ c105r1.eq_1 ?_;intros;refine gr 14 15 ?_;refine sJ c105r2.eq_1 ?_
 (intros;try refine du ?_)
 refine dW (fun e h=>∃ i j:Nat,(i≤j∧j≤l.length)∧(∀ k,atR l n=some k→i≤k∧k≤j)∧e 9=.int .i64 i∧e 10=.int .i64 j∧e 8=.int .i64 l.length∧e 0=.slice A l.length c∧e 1=.int .i64 n∧e 2=.func (.func 106) #[] #[]∧h=⟨G,[],[]⟩) (fun e h=>iv (e 10) - iv (e 9)) ?_ ?_
 ·refine⟨0,l.length,⟨by omega,by omega⟩,fun k hk=>?_,eE,eE,eE,eE,eE,eE,rfl⟩;obtain⟨x,hx,-⟩:=gW hk;have:=(List.getElem?_eq_some_iff.1 hx).1;omega
 rintro e h ⟨i,j,⟨hij,hjn⟩,hat,e9,e10,e8,e0,e1,e2,rfl⟩;refine dz [0,1,2,8,9,10] ?_;refine sJ6 @e0 @e1 @e2 @e8 @e9 @e10 ?_;intros;refine gr 15 17 ?_;refine sJ c105r3.eq_1 ?_;intros;refine gc ?_;refine sI ?_;refine gb (fun ht=>?_) (fun ht=>?_)
 ·have hlt:i < j:=by simpa using ht
  unfold maxLen at hmx;obtain⟨m,hm1,hm2,hh,hv⟩:∃ m:Nat,i≤m∧m < j∧eZ .shr (.int .u64 (IntKind.u64.wrap (IntKind.i64.wrap ((i:Int)+j)))) (.int .u64 1)=some (.int .u64 (m:Int))∧IntKind.i64.wrap (m:Int)=m :=
   ⟨(i+j) / 2,by omega,by omega,Hg i j (by omega),cvh i j (by omega)⟩
  obtain⟨x,hx⟩:∃ x,l[m]?=some x:=⟨l[m],List.getElem?_eq_getElem (by omega)⟩;intros;refine gN ?_;intros;refine gr 18 24 ?_;refine sJ3 c105r4.eq_1 @hh @hv ?_;intros;refine gr 24 31 ?_;refine sJ c105r5.eq_1 ?_;refine hA.x_ld hx rfl rfl ?_;rintro a1 ha1 cs hse;have hcl:=uY x n cs G hse;obtain⟨B,d,B2,d2,rfl,-⟩:=hse;unfold fH at hcl ⊢;refine sI ?_;refine .inl ⟨106,#[],rfl,?_⟩
  refine(hcl _ _).mono ?_;rintro _ _ ⟨rfl,rfl⟩;refine sI ?_;have hxr:=hrng m x hx;have hk:∀ k,atR l n=some k→0≤n∧n≤1048576∧IntKind.i64.wrap (x.id - n)=x.id - n∧((x.id < n∧m < k)∨(n≤x.id∧k≤m)):=fun k hk=>by
   obtain⟨y,hy,hyn⟩:=gW hk;have hyr:=hrng k y hy;refine⟨by omega,by omega,by rw[dU] <;> omega,?_⟩;rcases Nat.lt_trichotomy m k with h | h | h
   ·have:=hmono m k x y h hx hy;omega
   ·subst h;rw[hx]at hy;cases hy;omega
   ·have:=hmono k m y x h hy hx;omega
  intros;refine gc ?_;refine sI ?_;refine gb (fun h3=>?_) (fun h3=>?_)
  ·have h3:=of_decide_eq_true h3;have hw:IntKind.i64.wrap ((m:Int)+1)=(m:Int)+1:=by rw[dU] <;> omega
   intros;refine gr 32 34 ?_;refine sJ2 c105r6.eq_1 @hw ?_
   (intros;try refine du ?_)
   refine eh ⟨⟨m+1,j,⟨by omega,by omega⟩,fun k hkk=>?_,(eJ @hw),eE,eE,eE,eE,eE,rfl⟩,?_⟩
   ·have:=hk k hkk;have:=hat k hkk;omega
   refine sJ @hw ?_;omega
  ·have h3:=of_decide_eq_false h3;intros;refine gr 34 35 ?_;refine sJ c105r7.eq_1 ?_
   (intros;try refine du ?_)
   refine eh ⟨⟨i,m,⟨by omega,by omega⟩,fun k hkk=>?_,eE,eE,eE,eE,eE,eE,rfl⟩,?_⟩
   ·have:=hk k hkk;have:=hat k hkk;omega
   refine sI ?_;omega
 ·have hij':i=j:=by simp at ht;omega
  subst hij';refine dT ?_;refine sI ?_;have hin:=hjn;have hat:∀ k,atR l n=some k→i=k:=fun k hk=>by have:=hat k hk;omega
  intros;refine gr 35 49 ?_;refine sJ c105r8.eq_1 ?_;refine gd (fun ht=>?_) (fun ht=>?_)
  ·have hlt:i < l.length:=by simpa using ht
   obtain⟨x,hx⟩:∃ x,l[i]?=some x:=⟨l[i],List.getElem?_eq_getElem (by omega)⟩;refine sI ?_;refine hA.x_ld hx rfl rfl ?_;rintro a1 ha1 cs hse;have hcl:=uY x n cs G hse;obtain⟨B,d,B2,d2,rfl,-,-,-,hxi,-⟩:=hse;unfold fH at hcl ⊢;refine sI ?_;refine .inl ⟨106,#[],rfl,?_⟩;refine(hcl _ _).mono ?_;rintro _ _ ⟨rfl,rfl⟩;refine sI ?_;intros;refine rV ?_;simp only[push_cast,Nat.reduceBEq];refine⟨i,?_,hin,hat⟩
   have:decide (IntKind.i64.wrap (x.id - n)=0)=(atR l n).isSome:=by
    rw[Bool.eq_iff_iff,decide_eq_true_iff,HW hxi hn];constructor
    ·intro he;rw[← he,mX hs hx];rfl
    ·intro he;obtain⟨k,hk⟩:=Option.isSome_iff_exists.1 he;have:=hat k hk;subst this;obtain⟨y,hy,hyn⟩:=gW hk;rw[hx]at hy;cases hy;exact hyn
   rw[this]
  ·have hlt:i=l.length:=by have:=of_decide_eq_false ht;omega
   refine sI ?_;intros;refine rV ?_;simp only[push_cast,Nat.reduceBEq];refine⟨i,?_,hin,hat⟩;cases hk:atR l n with
   | none=>rfl
   | some k =>
    obtain⟨y,hy,hyn⟩:=gW hk;have:=(List.getElem?_eq_some_iff.1 hy).1;have:=hat k hk;omega
end Go.Proofs.YtpmofpekcbghnaaGreat
namespace Go.Proofs.YtpmofpekcbghnaaGreat
open Go Go.Kx
theorem F53:Fun Tryz.prog 53 9 v53 c53 o53:=Fun.mkA Tryz.func53 Tryz.ntmps53
theorem F47:Fun Tryz.prog 47 32 v47 c47 o47:=Fun.mkA Tryz.func47 Tryz.ntmps47
theorem F68:Fun Tryz.prog 68 6 v68 c68 o68:=Fun.mkA Tryz.func68 Tryz.ntmps68
theorem F55:Fun Tryz.prog 55 48 v55 c55 o55:=Fun.mkA Tryz.func55 Tryz.ntmps55
def smR(r:Rp):Prop:=smL r.log.segs∧r.log.segs.length≤1000∧r.eps.length≤1000
theorem Bm{l:List Sg}(h:smL l):∀ p,smL (fX p l):=by
 induction l with
 | nil=>intro p s hs;cases hs
 | cons x l ih =>
  intro p s hs;rw[fX]at hs;split at hs
  ·rcases List.mem_cons.1 hs with rfl | hs
   ·have:=h x (.head _);simp only[lj,List.length_take];omega
   ·exact ih (fun y hy=>h y (.tail _ hy)) _ s hs
  ·cases hs
theorem vH{l:Lg}(h:smL l.segs)(hm:l.segs.length≤1000):smL (ia l).1.segs∧(ia l).1.segs.length≤1000:=by
 unfold ia;split
 ·exact⟨Bm h _,by have:=(qy l.segs none).1;show(fX none l.segs).length≤_;omega⟩
 ·exact⟨fun s hs=>absurd hs (by simp[gG]),by simp[gG]⟩
theorem wt(n:Int)(G:Nat→Option Obj):FnS Tryz.prog 53 #[.int .i64 n] G (.bool (idI n)):=by
 refine F53.fnS (by simp) (dF ?_);unfold c53;intros;refine gr 0 0 ?_;refine sJ c53r0.eq_1 ?_;intros;refine gr 3 9 ?_;refine sJ c53r1.eq_1 ?_;refine gd (fun h=>?_) (fun h=>?_)
 ·have h:=of_decide_eq_true h;refine sI ?_;intros;refine rV ?_;simp only[push_cast,Nat.reduceBEq];rw[idI,decide_eq_true (show 0≤n from h),Bool.true_and]
 ·have h:=of_decide_eq_false h;refine sI ?_;intros;refine rV ?_;simp only[push_cast,Nat.reduceBEq];rw[idI,decide_eq_false (show ¬ 0≤n from h),Bool.false_and]
def Ip(l:List Int)(k:Nat):Prop:=∀ i x,i < k→l[i]?=some x→idI x=true∧∀ p,0 < i→l[i - 1]?=some p→p < x
theorem sa{l:List Int}:(Ip l l.length∧l≠[])↔fm l:=by
 constructor
 ·rintro⟨h,hn⟩;refine⟨hn,fun n hm=>?_,?_⟩
  ·obtain⟨i,hi⟩:=List.getElem?_of_mem hm;exact(h i n (List.getElem?_eq_some_iff.1 hi).1 hi).1
  ·rw[List.pairwise_iff_getElem];intro i j h1 h2 hij;have key:∀ d i:Nat,(h1:i < l.length)→(h2:i+d+1 < l.length)→l[i] < l[i+d+1]:=by
    intro d
    induction d with
    | zero=>exact fun i h1 h2=>(h (i+0+1) _ h2 (List.getElem?_eq_getElem h2)).2 _ (by omega) (by simp only[Nat.add_zero,Nat.add_sub_cancel];exact List.getElem?_eq_getElem h1)
    | succ d ih =>
     intro i h1 h2;have h3:=ih i h1 (by omega);have h4:=(h (i+(d+1)+1) _ h2 (List.getElem?_eq_getElem h2)).2 (l[i+d+1]'(by omega)) (by omega) (by
      rw[show i+(d+1)+1 - 1=i+d+1 by omega]
      exact List.getElem?_eq_getElem _)
     omega
   have:=key (j - i - 1) i h1 (by omega);have e:i+(j - i - 1)+1=j:=by omega
   simp only[e]at this;exact this
 ·rintro⟨h1,h2,h3⟩;refine⟨fun i x hi hx=>⟨h2 x (List.mem_of_getElem? hx),fun p hp hpx=>?_⟩,h1⟩;rw[List.pairwise_iff_getElem]at h3;obtain⟨g1,e1⟩:=List.getElem?_eq_some_iff.1 hx;obtain⟨g2,e2⟩:=List.getElem?_eq_some_iff.1 hpx;rw[← e1,← e2];exact h3 _ _ g2 g1 (by omega)
open Classical in
noncomputable def dB(p:Prop):Bool:=decide p
theorem Iu{p:Prop}(h:p):dB p=true:=by simp[dB,h]
theorem Il{p:Prop}(h:¬ p):dB p=false:=by simp[dB,h]
theorem Fl{p:Prop}:dB p=true↔p:=by simp[dB]
noncomputable def Ao(l:List Int):Bool:=dB (fm l)
theorem sf{l:List Int}(h:fm l):Ao l=true:=Iu h
theorem Ap{l:List Int}(h:¬ fm l):Ao l=false:=Il h
theorem oX{l:List Int}:Ao l=true↔fm l:=Fl
theorem og(l:List Int)(v:Value)(G:Nat→Option Obj)(hl:SlV G IE 1 v l):FnS Tryz.prog 47 #[v] G (.bool (Ao l)):=by
 obtain⟨A,c,rfl,hc,hmx,hA⟩:=hl;refine F47.fnS (by simp) (dF ?_);unfold c47;intros;refine gr 0 0 ?_;refine sJ c47r0.eq_1 ?_;intros;refine gr 0 0 ?_;refine sJ c47r1.eq_1 ?_
 (intros;try refine du ?_)
 refine dW (fun e h=>∃ k:Nat,(k≤l.length∧Ip l k)∧e 7=.int .i64 k∧e 6=.int .i64 l.length∧e 5=.slice A l.length c∧e 0=.slice A l.length c∧h=⟨G,[],[]⟩) (fun e h=>l.length - iv (e 7)) ?_ ?_
 ·exact⟨0,⟨Nat.zero_le _,fun i x hi=>absurd hi (by omega)⟩,eE,eE,eE,eE,rfl⟩
 rintro e h ⟨k,⟨hk,hr⟩,e7,e6,e5,e0,rfl⟩;refine dz [0,5,6,7] ?_;refine sJ4 @e0 @e5 @e6 @e7 ?_;intros;refine gr 0 0 ?_;refine sJ c47r2.eq_1 ?_;intros;refine gc ?_;refine sI ?_;refine gb (fun ht=>?_) (fun ht=>?_)
 ·have ht:k < l.length:=by have:=of_decide_eq_true ht;omega
  have hw:=fz k c (by omega) hmx;obtain⟨x,hx⟩:∃ s,l[k]?=some s:=⟨l[k],List.getElem?_eq_getElem (by omega)⟩;have hno:∀ (fr:List Td) (e:Env),¬ (idI x=true∧∀ p,0 < k→l[k - 1]?=some p→p < x)→go none Tryz.prog 32 v47.1 v47.2 (fW o47 fun v h=>v=.bool (Ao l)) (Td.s ((SC.reg false c47r5).seq .ret) :: fr) e ⟨G,[],[]⟩:=fun fr e hn=>by
   intros;refine gr 0 0 ?_;refine sJ c47r5.eq_1 ?_;intros;refine rV ?_;simp only[push_cast,Nat.reduceBEq];rw[Ap fun h=>hn ((sa.2 h).1 k x ht hx)]
  intros;refine gN ?_;intros;refine gr 9 12 ?_;refine sJ c47r3.eq_1 ?_;refine hA.x_l1 hx rfl rfl ?_;rintro a1 ha1 u1 ⟨hu,-⟩;cases hu;refine sI ?_;intros;refine gr 12 27 ?_;refine sJ c47r4.eq_1 ?_;refine(wt x _ _ _).mono ?_;rintro _ _ ⟨rfl,rfl⟩;refine sI ?_;refine gd (fun k1=>?_) (fun k1=>?_)
  ·have k1:idI x=false:=by simpa using k1
   refine sI ?_;intros;refine gc ?_;refine sI ?_;exact hno _ _ fun h=>by rw[k1]at h;cases h.1
  have k1:idI x=true:=by simpa using k1
  refine sI ?_;refine gd (fun k2=>?_) (fun k2=>?_)
  ·have k2:0 < k:=by have:=of_decide_eq_true k2;omega
   have hw1:IntKind.i64.wrap ((k:Int) - 1)=(k:Int) - 1:=by unfold maxLen at hmx;rw[dU] <;> omega
   obtain⟨p,hp⟩:∃ s,l[k - 1]?=some s:=⟨l[k - 1],List.getElem?_eq_getElem (by omega)⟩;refine sJ @hw1 ?_;refine hA.x_l1 hp (by omega) rfl ?_;rintro a2 ha2 u2 ⟨hu,-⟩;cases hu;refine sI ?_;intros;refine gc ?_;refine sI ?_;refine gb (fun k3=>?_) (fun k3=>?_)
   ·have k3:=of_decide_eq_true k3;exact hno _ _ fun h=>by have:=h.2 p k2 hp;omega
   have k3:=of_decide_eq_false k3;intros;refine gN ?_;intros;refine gr 28 29 ?_;refine sJ2 c47r6.eq_1 @hw ?_
   (intros;try refine du ?_)
   refine eh ⟨⟨k+1,⟨by omega,fun i y hi hy=>?_⟩,eE,eE,eE,eE,rfl⟩,?_⟩
   ·by_cases hik:i=k
    ·subst hik;rw[hx]at hy;cases hy;exact⟨k1,fun q _ hq=>by rw[hp]at hq;cases hq;omega⟩
    ·exact hr i y (by omega) hy
   refine sI ?_;omega
  ·have k2:k=0:=by have:=of_decide_eq_false k2;omega
   refine sI ?_;intros;refine gc ?_;refine sI ?_;intros;refine gN ?_;intros;refine gr 28 29 ?_;refine sJ2 c47r6.eq_1 @hw ?_
   (intros;try refine du ?_)
   refine eh ⟨⟨k+1,⟨by omega,fun i y hi hy=>?_⟩,eE,eE,eE,eE,rfl⟩,?_⟩
   ·have hik:i=k:=by omega
    subst hik;rw[hx]at hy;cases hy;exact⟨k1,fun q h0 _=>absurd h0 (by omega)⟩
   refine sI ?_;omega
 ·have ht:k=l.length:=by have:=of_decide_eq_false ht;omega
  subst ht;refine dT ?_;refine sI ?_;intros;refine gr 29 32 ?_;refine sJ c47r7.eq_1 ?_;intros;refine rV ?_;simp only[push_cast,Nat.reduceBEq];by_cases hn:l=[]
  ·rw[Ap fun h=>h.1 hn,hn];rfl
  ·rw[sf (sa.1 ⟨hr,hn⟩)];have:0 < l.length:=List.length_pos_iff.2 hn;simp;omega
theorem iQ(r:Rp)(cs:List Value)(G:Nat→Option Obj)(hr:RE G r cs)(hb:smL r.log.segs)(hm:r.log.segs.length≤1000000):FnS Tryz.prog 68 #[.agg cs.toArray] G (.int .i64 (eD r.log)):=by
 obtain⟨A,c,B,d,rfl,h1,h2,⟨h3,h4⟩,-⟩:=hr;have hend:=rI r.log (ek r.log A c) G ⟨A,c,rfl,h1,h3,h4⟩ hb hm;refine F68.fnS (by simp) (dF ?_);unfold c68 fH;unfold ek at hend;intros;refine gr 0 0 ?_;refine sJ c68r0.eq_1 ?_;intros;refine gr 4 6 ?_;refine sJ c68r1.eq_1 ?_;refine(hend _ _).mono ?_;rintro _ _ ⟨rfl,rfl⟩;refine sI ?_;intros;refine rV ?_;simp only[push_cast,Nat.reduceBEq]
noncomputable def EY(r:Rp):Bool:=dB (¬ okR r)
theorem sP{r:Rp}(h:¬ okR r):EY r=true:=Iu h
theorem vp{r:Rp}(h:okR r):EY r=false:=Il fun k=>k h
theorem Ez(r:Rp)(cs:List Value)(G:Nat→Option Obj)(hr:RE G r cs)(hsm:smR r):FnS Tryz.prog 55 #[.agg cs.toArray] G (.bool (EY r)):=by
 have hr0:=hr;obtain⟨hb,hm,he⟩:=hsm;obtain⟨A,c,B,d,rfl,h1,h2,⟨h3,h4⟩,h5,h6⟩:=hr;have hl:LE G r.log (ek r.log A c):=⟨A,c,rfl,h1,h3,h4⟩;have hchk:=ls r.log _ G hl hb;have hrec:=nq r.log _ G hl hb hm;have hend:=iQ r _ G hr0 hb (by omega);refine F55.fnS (by simp) (dF ?_);unfold c55;unfold fH at hend ⊢;unfold ek at hchk hrec;intros;refine gr 0 0 ?_;refine sJ c55r0.eq_1 ?_;intros;intros;try refine dv ?_
 have hno:∀ (fr:List Td) (e:Env) (L:List Kx.Item),¬ okR r→go none Tryz.prog 48 v55.1 v55.2 (fW o55 fun v h=>v=.bool (EY r)) (Td.s ((SC.reg false c55r2).seq .ret) :: fr) e ⟨G,L,[]⟩:=fun fr e L hn=>by
  intros;refine gr 0 0 ?_;refine sJ c55r2.eq_1 ?_;intros;refine rV ?_;simp only[push_cast,Nat.reduceBEq];rw[sP hn]
 have hcE:=ja r.eps _ G h2;intros;try refine dv ?_
 intros;refine gr 5 23 ?_;refine sJ c55r1.eq_1 ?_;refine(wt r.id _ _ _).mono ?_;rintro _ _ ⟨rfl,rfl⟩;refine sI ?_;refine gd (fun k1=>?_) (fun k1=>?_)
 ·have k1:idI r.id=false:=by simpa using k1
  refine sI ?_;intros;refine gc ?_;refine sI ?_;exact hno _ _ _ fun h=>by have:=h.1.1;rw[k1]at this;cases this
 have k1:idI r.id=true:=by simpa using k1
 refine sI ?_;refine(hcE _ _).mono ?_;rintro _ _ ⟨rfl,rfl⟩;refine sI ?_;refine gd (fun k2=>?_) (fun k2=>?_)
 ·have k2:=of_decide_eq_true k2;refine sI ?_;intros;refine gc ?_;refine sI ?_;exact hno _ _ _ fun h=>k2 h.1.2.1
 have k2:gQ r.eps=0:=by simpa using k2
 refine sI ?_;refine gd (fun k3=>?_) (fun k3=>?_)
 ·have k3:=of_decide_eq_true k3;refine sI ?_;intros;refine gc ?_;refine sI ?_;exact hno _ _ _ fun h=>by have:=h.1.2.2.1;omega
 have k3:=of_decide_eq_false k3;refine sI ?_;intros;refine gc ?_;refine sI ?_;refine gb (fun k4=>?_) (fun k4=>?_)
 ·have k4:=of_decide_eq_true k4;exact hno _ _ _ fun h=>by have:=h.1.2.2.2;omega
 have k4:=of_decide_eq_false k4;intros;refine gN ?_;intros;refine gr 25 26 ?_;refine sJ c55r3.eq_1 ?_;intros;try refine dv ?_
 refine eA (fun e h=>∃ (G':Nat→Option Obj) (A':Option Addr) (c':Nat),(Gle G G'∧LE G' (nZ r) (ek (nZ r) A' c'))∧h=⟨G',[.reg 3 (ek (nZ r) A' c'),.reg 1 (fH r A c B d)],[]⟩) ?_ ?_
 ·intros;try refine dv ?_
  intros;refine gr 27 28 ?_;refine sJ c55r4.eq_1 ?_;intros;refine gc ?_;refine sI ?_;refine gb (fun k5=>?_) (fun k5=>?_)
  ·have k5:r.up=false:=by simpa using k5
   have hlr:nZ r=(ia r.log).1:=by rw[nZ,if_neg (by rw[k5];simp)]
   intros;refine gr 29 34 ?_;refine sJ c55r5.eq_1 ?_;refine(hrec _ _).mono ?_;rintro v h' ⟨G1,rfl,hg1,cs,rfl,hle⟩;have hle0:=hle;obtain⟨A1,c1,rfl,-⟩:=hle;unfold ek;refine sI ?_;intros;refine gN ?_;exact eh ⟨G1,A1,c1,⟨hg1,by rw[hlr];exact hle0⟩,by rw[hlr];rfl⟩
  ·have k5:r.up=true:=by simpa using k5
   have hlr:nZ r=r.log:=by rw[nZ,if_pos k5]
   intros;refine gN ?_;exact eh ⟨G,A,c,⟨.refl G,by rw[hlr];exact hl⟩,by rw[hlr];rfl⟩
 rintro e h ⟨G1,A1,c1,⟨hg1,hle⟩,rfl⟩;refine dz [] ?_;have hls:smL (nZ r).segs∧(nZ r).segs.length≤1000:=by
  unfold nZ;split
  ·exact⟨hb,hm⟩
  ·exact vH hb hm
 have hchk1:=ls (nZ r) _ G1 hle hls.1;have hend1:=iQ r (fH r A c B d) G1 (RE.le hg1 hr0) hb (by omega);unfold ek at hchk1;unfold fH at hend1;unfold ek fH;intros;intros;try refine dv ?_
 (intros;try refine du ?_);refine o3 _ (List.Sublist.refl _) (by decide) ?_;refine sJ c55r6.eq_1 ?_
 refine(hchk1 _ _).mono ?_;rintro _ _ ⟨rfl,rfl⟩;refine sI ?_;refine gx (fun k5=>?_) (fun k5=>?_)
 ·have k5:=of_decide_eq_true k5;refine sI ?_;intros;refine rV ?_;simp only[push_cast,Nat.reduceBEq];rw[sP fun h=>k5 h.2.1]
 have k5:fj (nZ r)=0:=by simpa using k5
 refine sI ?_;refine gx (fun k6=>?_) (fun k6=>?_)
 ·have k6:r.up=true:=by simpa using k6
  refine sI ?_;refine(hend1 _ _).mono ?_;rintro _ _ ⟨rfl,rfl⟩;refine sI ?_;intros;refine rV ?_;simp only[push_cast,Nat.reduceBEq];by_cases k7:r.high≤eD r.log
  ·rw[vp ⟨⟨k1,k2,by omega,by omega⟩,k5,fun _=>k7⟩];simp;omega
  ·rw[sP fun h=>k7 (h.2.2 k6)];simp;omega
 ·have k6:r.up=false:=by simpa using k6
  refine sI ?_;intros;refine rV ?_;simp only[push_cast,Nat.reduceBEq];rw[vp ⟨⟨k1,k2,by omega,by omega⟩,k5,fun h=>by rw[k6]at h;cases h⟩]
end Go.Proofs.YtpmofpekcbghnaaGreat
namespace Go.Proofs.YtpmofpekcbghnaaGreat
open Go Go.Kx
theorem F18:Fun Tryz.prog 18 87 v18 c18 o18:=Fun.mkA Tryz.func18 Tryz.ntmps18
theorem F57:Fun Tryz.prog 57 8 v57 c57 o57:=Fun.mkA Tryz.func57 Tryz.ntmps57
def dY(p:Pt)(A:Option Addr)(c:Nat)(B:Option Addr)(d:Nat):List Value:=[.int .i64 p.epoch,.int .i64 p.leader,.int .i64 p.least,.slice A p.isr.length c,.slice B p.reps.length d]
def qp(p:Pt):Prop:=I64 p.epoch∧I64 p.leader∧I64 p.least
def PE(G:Nat→Option Obj)(p:Pt)(cs:List Value):Prop:=∃ A c B d,cs=dY p A c B d∧SlV G IE 1 (.slice A p.isr.length c) p.isr∧SlV G (RE G) 7 (.slice B p.reps.length d) p.reps∧qp p
theorem PE.le{G G':Nat→Option Obj}(hg:Gle G G'){p:Pt}{cs:List Value}(h:PE G p cs):PE G' p cs:=by
 obtain⟨A,c,B,d,h1,h2,h3,h4⟩:=h;exact⟨A,c,B,d,h1,h2.le hg fun _ _ h=>h,SlR.le hg h3,h4⟩
def smP(p:Pt):Prop:=(∀ r∈p.reps,smR r)∧p.reps.length≤1000∧p.isr.length≤1000
theorem tp(l:List Int)(n:Int)(b:Nat)(v:Value)(G:Nat→Option Obj)(hl:SlV G IE 1 v l)(hb:eT G ⟨b,0,none⟩=some v):FnS Tryz.prog 57 #[.int .i64 n,.pointer (some ⟨b,0,none⟩)] G (.bool (decide (n∉l))):=by
 have hd:(!decide (n∈l))=decide (n∉l):=by simp
 refine F57.fnS (by simp) (dF ?_);unfold c57;intros;refine gr 0 0 ?_;refine sJ c57r0.eq_1 ?_;intros;refine gr 4 8 ?_;refine sJ c57r1.eq_1 ?_;refine⟨_,⟨_,rfl,.g hb⟩,?_⟩;refine sI ?_;refine(jK l n _ _ hl _ _).mono ?_;rintro _ _ ⟨rfl,rfl⟩;refine sI ?_;intros;refine rV ?_;simp only[push_cast,Nat.reduceBEq];rw[hd]
theorem mo{p:Pt}(h:¬ okP p):fa p=1:=by unfold fa;rw[if_neg h]
theorem jb{p:Pt}(h:okP p):fa p=0:=by unfold fa;rw[if_pos h]
theorem jP(p:Pt)(cs:List Value)(G:Nat→Option Obj)(hp:PE G p cs)(hsm:smP p):FnS Tryz.prog 18 #[.agg cs.toArray] G (.int .i64 (fa p)):=by
 obtain⟨A,c,B,d,rfl,hI,hR,hi1,hi2,hi3⟩:=hp;obtain⟨hs1,hs2,hs3⟩:=hsm;have hR0:=hR;obtain⟨B0,d0,he,hd0,hmx,hA⟩:=hR;cases he;refine F18.fnS (by simp) (dF ?_);unfold c18 dY;intros;refine gr 0 0 ?_;refine sJ c18r0.eq_1 ?_;intros;refine gr 0 0 ?_;refine sJ c18r1.eq_1 ?_;intro b3 hb3;refine sI ?_;intros;refine dx (dR none 3 1) ?_;intros;try refine dv ?_
 refine eA (fun e h=>∃ (u:Value) (zc:List Value),Cells IE 1 (fM p.reps) zc∧e 3=.pointer (some ⟨b3,0,none⟩)∧h=⟨G,[.row u 3 1 p.reps.length zc,.blk b3 [u],.reg 1 (dY p A c B d)],[]⟩) ?_ ?_
 ·intros;try refine dv ?_
  intros;refine gr 0 0 ?_;refine sJ c18r2.eq_1 ?_
  (intros;try refine du ?_)
  refine dW (fun e h=>∃ (k:Nat) (u:Value) (zc:List Value),(k≤p.reps.length∧Cells IE 1 (fM (p.reps.take k)) zc)∧e 10=.int .i64 k∧e 9=.int .i64 p.reps.length∧e 8=.slice B p.reps.length d∧e 3=.pointer (some ⟨b3,0,none⟩)∧h=⟨G,[.row u 3 1 (fM (p.reps.take k)).length zc,.blk b3 [u],.reg 1 (dY p A c B d)],[]⟩) (fun e h=>p.reps.length - iv (e 10)) ?_ ?_
  ·exact⟨0,.slice none 0 0,[],⟨Nat.zero_le _,.nil⟩,eE,eE,eE,eE,rfl⟩
  rintro e h ⟨k,u,zc,⟨hk,hzc⟩,e10,e9,e8,e3,rfl⟩;refine dz [3,8,9,10] ?_;refine sJ4 @e3 @e8 @e9 @e10 ?_;intros;refine gr 0 0 ?_;refine sJ c18r3.eq_1 ?_;intros;refine gc ?_;refine sI ?_;refine gb (fun ht=>?_) (fun ht=>?_)
  ·have ht:k < p.reps.length:=by have:=of_decide_eq_true ht;omega
   have hw:=fz k d (by omega) hmx;obtain⟨r,hr⟩:∃ s,p.reps[k]?=some s:=⟨p.reps[k],List.getElem?_eq_getElem (by omega)⟩;have htk:fM (p.reps.take (k+1))=fM (p.reps.take k)++[r.id]:=by rw[List.take_add_one,hr];simp[fM]
   have hkl:(fM (p.reps.take k)).length=k:=by simp[fM];omega
   intros;refine gN ?_;intros;refine gr 12 14 ?_;refine sJ c18r4.eq_1 ?_;refine hA.x_ld hr rfl rfl ?_;rintro a1 ha1 cs hse;have hie:IE r.id [.int .i64 r.id]:=by
    obtain⟨_,_,_,_,_,_,_,_,h,_⟩:=hse;exact⟨rfl,h⟩
   obtain⟨B1,d1,B2,d2,rfl,-⟩:=hse;unfold fH;refine sI ?_;intros;refine gr 14 19 ?_;refine sJ c18r5.eq_1 ?_;refine⟨_,dE (.tail _ (.tail _ (.head _))) rfl,?_⟩;refine sI ?_;intro bk hbk;refine x8 (L1:=[_]) (L2:=[_,_]) (E:=IE) (x:=r.id) rfl hie rfl (by simp[Value.oneCell']) hzc (by omega) (by omega) fun A' c' zc' hzc'=>?_
   rw[← htk]at hzc' ⊢;refine sI ?_;refine dI [_,_,_] [_] rfl (by simp) ⟨rfl,rfl⟩ ?_;refine sI ?_;intros;refine gN ?_;refine dx (dD (.cons _ (.cons _ (List.Sublist.refl _)))) ?_;intros;refine gr 19 20 ?_;refine sJ2 c18r6.eq_1 @hw ?_
   (intros;try refine du ?_)
   refine eh ⟨⟨k+1,_,zc',⟨by omega,hzc'⟩,eE,eE,eE,eE,rfl⟩,?_⟩;refine sI ?_;omega
  ·have ht:k=p.reps.length:=by have:=of_decide_eq_false ht;omega
   subst ht;rw[List.take_length]at hzc ⊢;have hln:(fM p.reps).length=p.reps.length:=by simp[fM]
   rw[hln];refine dT ?_;refine sI ?_;intros;refine gN ?_;exact eh ⟨u,zc,hzc,eE,rfl⟩
 rintro e h ⟨u,zc,hzc,e3,rfl⟩;refine dz [3] ?_;refine sJ @e3 ?_;intros;try refine dv ?_
 refine ed (dQ [] _ (by decide) hzc) ?_;rintro h' ⟨G1,rfl,hg1,hv1⟩;refine ed (ec [] _) ?_;rintro h' ⟨G2,rfl,hg2,f3⟩;have hg02:=hg1.trans hg2;have f3:=f3 0 _ rfl;rw[es]at f3;have hids:=hv1.le (E':=IE) hg2 fun _ _ h=>h
 have hI2:=hI.le (E':=IE) hg02 fun _ _ h=>h
 have hR2:=SlR.le hg02 hR0;have hln:(fM p.reps).length=p.reps.length:=by simp[fM]
 obtain⟨A2,c2,rfl,hc2,hm2,hA2⟩:=hids;have hids:SlV G2 IE 1 (.slice A2 (fM p.reps).length c2) (fM p.reps):=⟨A2,c2,rfl,hc2,hm2,hA2⟩;clear hv1 hzc hA2;have hL3:∀ L D,LdN ⟨G2,L,D⟩ (.pointer (some ⟨b3,0,none⟩)) none (.slice A2 (fM p.reps).length c2):=fun L D=>⟨_,rfl,.g f3⟩
 have hodd:=ob p.reps EY 55 #[] _ G2 hR2 fun r cs hm hr=>Ez r cs G2 hr (hs1 r hm)
 have hnin:=nQ p.isr (fun n=>decide (n∉fM p.reps)) 57 #[.pointer (some ⟨b3,0,none⟩)] _ G2 hI2 fun n hm hn=>tp (fM p.reps) n b3 _ G2 hids f3
 unfold dY;have hno:∀ (fr:List Td) (e:Env) (L:List Kx.Item),¬ okP p→go none Tryz.prog 87 v18.1 v18.2 (fW o18 fun v h=>v=.int .i64 (fa p)) (Td.s ((SC.reg false c18r8).seq .ret) :: fr) e ⟨G2,L,[]⟩:=fun fr e L hn=>by
  intros;refine gr 0 0 ?_;refine sJ c18r8.eq_1 ?_;intros;refine rV ?_;simp only[push_cast,Nat.reduceBEq];rw[mo hn]
 intros;try refine dv ?_
 intros;refine gr 21 50 ?_;refine sJ c18r7.eq_1 ?_;refine(wt p.epoch _ _ _).mono ?_;rintro _ _ ⟨rfl,rfl⟩;refine sI ?_;refine gd (fun k1=>?_) (fun k1=>?_)
 ·have k1:idI p.epoch=false:=by simpa using k1
  refine sI ?_;intros;refine gc ?_;refine sI ?_;exact hno _ _ _ fun h=>by have:=h.1.1;rw[k1]at this;cases this
 have k1:idI p.epoch=true:=by simpa using k1
 refine sI ?_;refine⟨_,hL3 _ _,?_⟩;refine sI ?_;refine(og _ _ _ hids _ _).mono ?_;rintro _ _ ⟨rfl,rfl⟩;refine sI ?_;refine gd (fun k2=>?_) (fun k2=>?_)
 ·have k2:Ao (fM p.reps)=false:=by simpa using k2
  refine sI ?_;intros;refine gc ?_;refine sI ?_;exact hno _ _ _ fun h=>by have:=sf h.1.2.1;rw[k2]at this;cases this
 have k2:fm (fM p.reps):=oX.1 (by simpa using k2);refine sI ?_;refine⟨_,hL3 _ _,?_⟩;refine sJ @hln ?_;refine gd (fun k3=>?_) (fun k3=>?_)
 ·have k3:=of_decide_eq_true k3;refine sI ?_;intros;refine gc ?_;refine sI ?_;exact hno _ _ _ fun h=>by have:=h.1.2.2.1;omega
 have k3:=of_decide_eq_false k3;refine sI ?_;refine gd (fun k4=>?_) (fun k4=>?_)
 ·have k4:=of_decide_eq_true k4;refine sI ?_;intros;refine gc ?_;refine sI ?_;exact hno _ _ _ fun h=>by have:=h.1.2.2.2.1;omega
 have k4:=of_decide_eq_false k4;refine sI ?_;refine⟨_,hL3 _ _,?_⟩;refine sJ @hln ?_;refine gd (fun k5=>?_) (fun k5=>?_)
 ·have k5:=of_decide_eq_true k5;refine sI ?_;intros;refine gc ?_;refine sI ?_;exact hno _ _ _ fun h=>by have:=h.1.2.2.2.1;omega
 have k5:=of_decide_eq_false k5;refine sI ?_;refine(hodd _ _).mono ?_;rintro _ _ ⟨rfl,rfl⟩;refine sI ?_;intros;refine gc ?_;refine sI ?_;refine gb (fun k6=>?_) (fun k6=>?_)
 ·obtain⟨r,hr,ho⟩:=List.any_eq_true.1 k6;exact hno _ _ _ fun h=>by rw[vp (h.1.2.2.2.2 r hr)]at ho;cases ho
 have k6:∀ r∈p.reps,okR r:=fun r hr=>Classical.byContradiction fun hn=>by
  rw[List.any_eq_false]at k6;exact k6 r hr (sP hn)
 have hp1:idI p.epoch=true∧fm (fM p.reps)∧p.reps.length≤5∧(1≤p.least∧p.least≤(p.reps.length:Int))∧∀ r∈p.reps,okR r:=⟨k1,k2,by omega,⟨by omega,by omega⟩,k6⟩;clear hno;intros;refine gN ?_;intros;try refine dv ?_
 have hno:∀ (fr:List Td) (e:Env) (L:List Kx.Item),¬ okP p→go none Tryz.prog 87 v18.1 v18.2 (fW o18 fun v h=>v=.int .i64 (fa p)) (Td.s ((SC.reg false c18r10).seq .ret) :: fr) e ⟨G2,L,[]⟩:=fun fr e L hn=>by
  intros;refine gr 0 0 ?_;refine sJ c18r10.eq_1 ?_;intros;refine rV ?_;simp only[push_cast,Nat.reduceBEq];rw[mo hn]
 intros;try refine dv ?_
 intros;refine gr 52 60 ?_;refine sJ c18r9.eq_1 ?_;refine(og _ _ _ hI2 _ _).mono ?_;rintro _ _ ⟨rfl,rfl⟩;refine sI ?_;refine gd (fun k7=>?_) (fun k7=>?_)
 ·have k7:Ao p.isr=false:=by simpa using k7
  refine sI ?_;intros;refine gc ?_;refine sI ?_;exact hno _ _ _ fun h=>by have:=sf h.2.1.1;rw[k7]at this;cases this
 have k7:fm p.isr:=oX.1 (by simpa using k7);refine sI ?_;refine(hnin _ _).mono ?_;rintro _ _ ⟨rfl,rfl⟩;refine sI ?_;intros;refine gc ?_;refine sI ?_;refine gb (fun k8=>?_) (fun k8=>?_)
 ·obtain⟨n,hn,ho⟩:=List.any_eq_true.1 k8;exact hno _ _ _ fun h=>(of_decide_eq_true ho) (h.2.1.2 n hn)
 have k8:∀ n∈p.isr,n∈fM p.reps:=fun n hn=>Classical.byContradiction fun hh=>by
  rw[List.any_eq_false]at k8;exact k8 n hn (decide_eq_true hh)
 clear hno;intros;refine gN ?_;intros;try refine dv ?_
 intros;try refine dv ?_
 intros;refine gr 62 63 ?_;refine sJ c18r11.eq_1 ?_;intros;refine gc ?_;refine sI ?_;refine gb (fun k9=>?_) (fun k9=>?_)
 ·have k9:=of_decide_eq_true k9;intros;refine gr 0 0 ?_;refine sJ c18r12.eq_1 ?_;intros;refine rV ?_;simp only[push_cast,Nat.reduceBEq];rw[jb ⟨hp1,⟨k7,k8⟩,.inl k9⟩]
 have k9:=of_decide_eq_false k9;intros;refine gN ?_;intros;refine gr 64 68 ?_;refine sJ c18r13.eq_1 ?_;refine⟨_,hL3 _ _,?_⟩;refine sI ?_;refine(pS _ p.leader _ _ hids _ _).mono ?_;rintro _ _ ⟨rfl,rfl⟩;refine sI ?_
 have hno:∀ (fr:List Td) (e:Env) (L:List Kx.Item),¬ okP p→go none Tryz.prog 87 v18.1 v18.2 (fW o18 fun v h=>v=.int .i64 (fa p)) (Td.s ((SC.reg false c18r15).seq .ret) :: fr) e ⟨G2,L,[]⟩:=fun fr e L hn=>by
  intros;refine gr 0 0 ?_;refine sJ c18r15.eq_1 ?_;intros;refine rV ?_;simp only[push_cast,Nat.reduceBEq];rw[mo hn]
 intros;try refine dv ?_
 rcases ky (fun y=>decide (p.leader=y)) (fM p.reps) 0 with⟨q1,q2⟩ | ⟨k,y,q1,q2,q3,-⟩
 ·rw[q1];have hd:decide ((-1:Int) < 0)=true:=by decide
  intros;refine gr 68 86 ?_;refine sJ2 c18r14.eq_1 @hd ?_;intros;refine gc ?_;refine sI ?_;refine hno _ _ _ fun h=>?_
  rcases h.2.2 with h | ⟨⟨r,hr,he,-⟩,-⟩
  ·exact k9 h
  ·have:=of_decide_eq_false (q2 r.id (List.mem_map.2 ⟨r,hr,rfl⟩));exact this he.symm
 rw[q1,Nat.zero_add];have q3:=of_decide_eq_true q3;subst q3;obtain⟨r,hr,hre⟩:∃ r,p.reps[k]?=some r∧r.id=p.leader:=by
  rw[fM,List.getElem?_map,Option.map_eq_some_iff]at q2;exact q2
 have hkl:=(List.getElem?_eq_some_iff.1 hr).1;obtain⟨A5,c5,he5,_,_,hA5⟩:=hR2;cases he5;have hd:decide ((k:Int) < 0)=false:=by simp
 intros;refine gr 68 86 ?_;refine sJ2 c18r14.eq_1 @hd ?_;refine hA5.x_lf hr rfl rfl (fun cs hse=>by obtain⟨_,_,_,_,rfl,-⟩:=hse;rfl) ?_;rintro a6 ha6;refine sI ?_;refine gd (fun k10=>?_) (fun k10=>?_)
 ·have k10:r.up=false:=by simpa using k10
  refine sI ?_;intros;refine gc ?_;refine sI ?_;refine hno _ _ _ fun h=>?_
  rcases h.2.2 with h | ⟨⟨r',hr',he,hu⟩,-⟩
  ·exact k9 h
  ·obtain⟨j,hj⟩:=List.getElem?_of_mem hr';have e1:=mX k2.2.2 hr;have e2:=mX k2.2.2 hj;rw[he,← hre,e1]at e2;cases e2;rw[hr]at hj;cases hj;rw[k10]at hu;cases hu
 have k10:r.up=true:=by simpa using k10
 refine sI ?_;refine(jK _ p.leader _ _ hI2 _ _).mono ?_;rintro _ _ ⟨rfl,rfl⟩;refine sI ?_;intros;refine gc ?_;refine sI ?_;refine gb (fun k11=>?_) (fun k11=>?_)
 ·have k11:p.leader∉p.isr:=by simpa using k11
  refine hno _ _ _ fun h=>?_
  rcases h.2.2 with h | h
  ·exact k9 h
  ·exact k11 h.2
 have k11:p.leader∈p.isr:=by simpa using k11
 intros;refine gN ?_;intros;refine gr 0 0 ?_;refine sJ c18r16.eq_1 ?_;intros;refine rV ?_;simp only[push_cast,Nat.reduceBEq];rw[jb ⟨hp1,⟨k7,k8⟩,.inr ⟨⟨r,List.mem_of_getElem? hr,hre,k10⟩,k11⟩⟩]
end Go.Proofs.YtpmofpekcbghnaaGreat
namespace Go.Proofs.YtpmofpekcbghnaaGreat
open Go Go.Kx Go.RowKit
theorem qh{P:Program}{W:World}{t:TypeId}{fs:Array Field}(ht:P.underlying t=some (.struct fs)){k:Nat}(hC:P.cellsOf t=k){H:Type}{enc:TypeId × Value→H}{fuel:Nat}{cs:List Value}{x:DataW H × List MemPlace}
  (hx:DataW.trod enc P W 0 (fun _=>true) true fuel t cs=some x):cs.length=k∧∀ (i:Nat) (f:Field),fs[i]?=some f→∀ o m,f.offset=o→P.cellsOf f.type=m→∃ n y,DataW.trod enc P W 0 (fun _=>true) true n f.type ((cs.drop o).take m)=some y:=by
 obtain⟨ys,n,_,_,hlen,hyl,hf⟩:=DataW.trod_struct ht hx;rw[hC]at hlen;refine⟨hlen,fun i f hi o m ho hm=>?_⟩;subst ho hm;have h1:=hf i f hi;have hil:i < fs.size:=(Array.getElem?_eq_some_iff.1 hi).1;have hys:ys[i]?=some (ys[i]'(by omega)):=List.getElem?_eq_getElem (by omega);exact⟨n,_,h1.trans hys⟩
theorem yW(W:World):fR Tryz.prog W 151 EpE:=fun H enc fuel cs x hx=>by
 obtain⟨hl,hf⟩:=gj Tryz.underlying151 (by kernel_rfl) (by kernel_rfl) hx;obtain⟨v0,_,_,c0,t0⟩:=hf 0 _ rfl;obtain⟨v1,_,_,c1,t1⟩:=hf 1 _ rfl;obtain⟨n0,e0,w0⟩:=(eb Tryz.underlying3).at_ t0;obtain⟨n1,e1,w1⟩:=(eb Tryz.underlying3).at_ t1;cases e0;cases e1;refine⟨(n0,n1),?_,fx w0,fx w1⟩
 match cs,hl with
 | [_,_],_=>cases c0;cases c1;rfl
theorem xv(W:World):fR Tryz.prog W 48 (fun(l:List Ep) cs=>∃ A c,cs=[.slice A l.length c]∧l.length≤c∧c≤maxLen∧SlA (m9 W) EpE 2 A l) :=
 gC Tryz.underlying48 (by kernel_rfl) (yW W)
theorem uI(W:World):fR Tryz.prog W 50 (RE (m9 W)):=fun H enc fuel cs x hx=>by
 obtain⟨hl,hf⟩:=qh (k:=7) Tryz.underlying50 (by kernel_rfl) hx
 match cs,hl with
 | [x0,x1,x2,x3,x4,x5,x6],_ =>
  obtain⟨_,_,t0⟩:=hf 0 _ rfl 0 1 rfl (by kernel_rfl);obtain⟨_,_,t1⟩:=hf 1 _ rfl 1 1 rfl (by kernel_rfl);obtain⟨_,_,t2⟩:=hf 2 _ rfl 2 3 rfl (by kernel_rfl);obtain⟨_,_,t3⟩:=hf 3 _ rfl 5 1 rfl (by kernel_rfl);obtain⟨_,_,t4⟩:=hf 4 _ rfl 6 1 rfl (by kernel_rfl);obtain⟨n0,e0,w0⟩:=eb Tryz.underlying3 _ _ _ _ _ t0;obtain⟨n1,e1⟩:=lv Tryz.underlying4 _ _ _ _ _ t1;obtain⟨n2,A2,c2,e2,w2⟩:=wu W _ _ _ _ _ t2
  obtain⟨n3,A3,c3,e3,w3⟩:=xv W _ _ _ _ _ t3;obtain⟨n4,e4,w4⟩:=eb Tryz.underlying3 _ _ _ _ _ t4;cases (show[x0]=[.int .i64 n0]from e0);cases (show[x1]=[.bool n1]from e1);cases (show[x2,x3,x4]=ek n2 A2 c2 from e2);cases (show[x5]=[.slice A3 n3.length c3]from e3);cases (show[x6]=[.int .i64 n4]from e4);exact⟨⟨n0,n1,n2,n3,n4⟩,A2,c2,A3,c3,rfl,w2.1,⟨A3,c3,rfl,w3⟩,w2.2,fx w0,fx w4⟩
theorem tJ(W:World):fR Tryz.prog W 23 (fun(l:List Rp) cs=>∃ A c,cs=[.slice A l.length c]∧l.length≤c∧c≤maxLen∧SlA (m9 W) (RE (m9 W)) 7 A l) :=
 gC Tryz.underlying23 (by kernel_rfl) (uI W)
theorem yj(W:World):fR Tryz.prog W 3 IE:=(eb Tryz.underlying3).mono fun n cs ⟨h1,h2⟩=>⟨n,h1,fx h2⟩
theorem uQ(W:World):fR Tryz.prog W 22 (fun(l:List Int) cs=>∃ A c,cs=[.slice A l.length c]∧l.length≤c∧c≤maxLen∧SlA (m9 W) IE 1 A l) :=
 gC Tryz.underlying22 (by kernel_rfl) (yj W)
theorem s6(W:World):fR Tryz.prog W 25 (PE (m9 W)):=fun H enc fuel cs x hx=>by
 obtain⟨hl,hf⟩:=gj Tryz.underlying25 (by kernel_rfl) (by kernel_rfl) hx;obtain⟨v0,_,_,c0,t0⟩:=hf 0 _ rfl;obtain⟨v1,_,_,c1,t1⟩:=hf 1 _ rfl;obtain⟨v2,_,_,c2,t2⟩:=hf 2 _ rfl;obtain⟨v3,_,_,c3,t3⟩:=hf 3 _ rfl;obtain⟨v4,_,_,c4,t4⟩:=hf 4 _ rfl;obtain⟨n0,e0,w0⟩:=(eb Tryz.underlying3).at_ t0;obtain⟨n1,e1,w1⟩:=(eb Tryz.underlying3).at_ t1;obtain⟨n2,e2,w2⟩:=(eb Tryz.underlying3).at_ t2
 obtain⟨n3,A,c,e3,w3⟩:=(uQ W).at_ t3;obtain⟨n4,B,d,e4,w4⟩:=(tJ W).at_ t4;cases e0;cases e1;cases e2;cases e3;cases e4;refine⟨⟨n0,n1,n2,n3,n4⟩,A,c,B,d,?_,⟨A,c,rfl,w3⟩,⟨B,d,rfl,w4⟩,fx w0,fx w1,fx w2⟩
 match cs,hl with
 | [_,_,_,_,_],_=>cases c0;cases c1;cases c2;cases c3;cases c4;rfl
end Go.Proofs.YtpmofpekcbghnaaGreat

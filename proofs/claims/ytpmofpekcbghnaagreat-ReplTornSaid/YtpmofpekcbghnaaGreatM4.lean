/- Parts of a proof, 11 texts in one file. No condition. -/
import Derived.Laws.Strings
import Derived.Test.YtpmofpekcbghnaaGreatM1
import Derived.Test.YtpmofpekcbghnaaGreatM2
import Derived.Test.YtpmofpekcbghnaaGreatM3
set_option linter.unusedSimpArgs false
set_option linter.unusedVariables false
namespace Go.Proofs.YtpmofpekcbghnaaGreat
open Go Go.Kx
theorem F179:Fun Tryz.prog 179 131 v179 c179 o179:=Fun.mk' Tryz.func179 Tryz.ntmps179 (by kernel_rfl) (by kernel_rfl) s179 q179
structure Batch where
 base:Int
 last:Int
 src:Int
 epoch:Int
 pid:Int
 gen:Int
 seq:Int
 txn:Bool
 ctl:Int
 recs:List Rec
def cellH(x:Batch)(v:Value):List Value:=[.int .i64 x.base,.int .i64 x.last,.int .i64 x.src,.int .i64 x.epoch,.int .i64 x.pid,.int .i64 x.gen,.int .i64 x.seq,.bool x.txn,.int .i64 x.ctl,v]
def BE(G:Nat→Option Obj)(x:Batch)(cs:List Value):Prop :=
 ∃ A c,cs=cellH x (.slice A x.recs.length c)∧(x.recs.length≤c∧c≤maxLen∧SlA G RR 5 A x.recs)∧I64 x.base∧I64 x.last∧I64 x.src∧I64 x.epoch∧I64 x.pid∧I64 x.gen∧I64 x.seq∧I64 x.ctl
theorem BE.le{G G':Nat→Option Obj}(hg:Gle G G'){x:Batch}{cs:List Value}(h:BE G x cs):BE G' x cs:=by
 obtain⟨A,c,h1,⟨h2,h3,h4⟩,h5⟩:=h
 exact⟨A,c,h1,⟨h2,h3,h4.le hg fun _ _ h=>h⟩,h5⟩
def rowF(last:Int):Int→List Rec→Bool
 | _,[]=>true
 | next,r :: rs=>decide (chkR r=0) && decide (next≤r.off) && decide (r.off≤last) && rowF last (r.off+1) rs
def Form(b:Batch):Prop :=
 (rng 1099511627776 b.base=true∧rng 1099511627776 b.last=true∧rng 1099511627776 b.src=true)∧(rng 1048576 b.epoch=true∧rng 1048576 b.gen=true∧rng 1048576 b.seq=true) ∧
  (b.base≤b.last∧b.last - b.base < 16∧b.src+(b.last - b.base)≤1099511627776∧b.seq+(b.last - b.base)≤1048576)∧(-1≤b.pid∧b.pid≤1099511627776)∧(b.pid=-1→b.gen=0∧b.seq=0∧b.txn=false∧b.ctl=0) ∧
  ((b.ctl=0∧rowF b.last b.base b.recs=true)∨((b.ctl=1∨b.ctl=2)∧b.last - b.base=0∧b.recs=[]∧b.txn=true))
instance decForm (b:Batch):Decidable (Form b):=by
 unfold Form
 infer_instance
theorem within_row(m:Int)(y:Int)(l:List Int)(v:Value)(n:Nat)(ys:List Value)(hc:Cells IE 1 (y :: l) ys)(G:Nat→Option Obj)(L:List Kx.Item)(D:List Nat):
  CallsH Tryz.prog 117 #[.int .i64 m,v] ⟨G,.row v 3 1 n ys :: L,D⟩ fun r h'=>r=.bool ((y :: l).all (rng m))∧h'=⟨G,.row v 3 1 n ys :: L,D⟩ :=
 lend1 (E:=IE) (xs:=y :: l) (R:=fun r=>r=.bool ((y :: l).all (rng m))) F117.enters (by decide) hc fun G' hg hx=>by
  have:=within_ok m y l v G' hx L D
  simpa using this
theorem cells3{a b c:Int}(ha:I64 a)(hb:I64 b)(hc:I64 c):Cells IE 1 [a,b,c] [.int .i64 a,.int .i64 b,.int .i64 c] :=
 .cons (cs:=[.int .i64 a]) ⟨rfl,ha⟩ rfl (.cons (cs:=[.int .i64 b]) ⟨rfl,hb⟩ rfl (.one (cs:=[.int .i64 c]) ⟨rfl,hc⟩ rfl))
theorem formed_ok(x:Batch)(cs:List Value)(G:Nat→Option Obj)(hx:BE G x cs):FnS Tryz.prog 179 #[.agg cs.toArray] G (.bool (decide (Form x))):=by
 obtain⟨A,c,rfl,⟨hc,hm,hA⟩,i1,i2,i3,i4,i5,i6,i7,i8⟩:=hx
 refine F179.fnS (by simp) (go_of ?_)
 unfold c179 cellH
 intros;refine gr 0 0 ?_;refine sJ c179r0.eq_1 ?_
 have hbad:∀ (fr:List Td) (e:Env) (L:List Kx.Item),¬ Form x→go none Tryz.prog 131 v179.1 v179.2 (retQ o179 fun v h=>v=.bool (decide (Form x))) (Td.s ((SC.reg false c179r2).seq .ret) :: fr) e ⟨G,L,[]⟩:=fun fr e L hx=>by
  intros;refine gr 0 0 ?_;refine sJ c179r2.eq_1 ?_
  intros;refine rV ?_;simp only[push_cast,Nat.reduceBEq]
  rw[decide_eq_false hx]
 intros;refine gr 8 26 ?_;refine sJ c179r1.eq_1 ?_
 intro b1 hb1
 refine(within_row 1099511627776 _ _ _ _ _ (cells3 i1 i2 i3) _ _ _).mono ?_;rintro _ _ ⟨rfl,rfl⟩;refine sI ?_
 refine gd (fun h1=>?_) (fun h1=>?_)
 ·refine sI ?_
  intros;refine gc ?_;refine sI ?_
  refine hbad _ _ _ fun h=>?_
  simp[h.1.1,h.1.2.1,h.1.2.2]at h1
 refine sI ?_
 intro b2 hb2
 refine(within_row 1048576 _ _ _ _ _ (cells3 i4 i6 i7) _ _ _).mono ?_;rintro _ _ ⟨rfl,rfl⟩;refine sI ?_
 intros;refine gc ?_;refine sI ?_
 refine gb (fun h2=>?_) (fun h2=>?_)
 ·refine hbad _ _ _ fun h=>?_
  simp[h.2.1.1,h.2.1.2.1,h.2.1.2.2]at h2
 have h1:rng 1099511627776 x.base=true∧rng 1099511627776 x.last=true∧rng 1099511627776 x.src=true:=by simpa using h1
 have h2:rng 1048576 x.epoch=true∧rng 1048576 x.gen=true∧rng 1048576 x.seq=true:=by simpa using h2
 have h1':=h1
 have h2':=h2
 simp[rng]at h1' h2'
 have w1:IntKind.i64.wrap (x.last - x.base)=x.last - x.base:=by rw[w64_id] <;> omega
 (repeat first | refine go_skip ?_ | refine go_b ?_)
 intros;refine gr 28 32 ?_;refine sJ2 c179r3.eq_1 @w1 ?_
 have hb5:∀ (fr:List Td) (e:Env) (L:List Kx.Item),¬ Form x→go none Tryz.prog 131 v179.1 v179.2 (retQ o179 fun v h=>v=.bool (decide (Form x))) (Td.s ((SC.reg false c179r5).seq .ret) :: fr) e ⟨G,L,[]⟩:=fun fr e L hx=>by
  intros;refine gr 0 0 ?_;refine sJ c179r5.eq_1 ?_
  intros;refine rV ?_;simp only[push_cast,Nat.reduceBEq]
  rw[decide_eq_false hx]
 have hb7:∀ (fr:List Td) (e:Env) (L:List Kx.Item),¬ Form x→go none Tryz.prog 131 v179.1 v179.2 (retQ o179 fun v h=>v=.bool (decide (Form x))) (Td.s ((SC.reg false c179r7).seq .ret) :: fr) e ⟨G,L,[]⟩:=fun fr e L hx=>by
  intros;refine gr 0 0 ?_;refine sJ c179r7.eq_1 ?_
  intros;refine rV ?_;simp only[push_cast,Nat.reduceBEq]
  rw[decide_eq_false hx]
 have hb9:∀ (fr:List Td) (e:Env) (L:List Kx.Item),¬ Form x→go none Tryz.prog 131 v179.1 v179.2 (retQ o179 fun v h=>v=.bool (decide (Form x))) (Td.s ((SC.reg false c179r9).seq .ret) :: fr) e ⟨G,L,[]⟩:=fun fr e L hx=>by
  intros;refine gr 0 0 ?_;refine sJ c179r9.eq_1 ?_
  intros;refine rV ?_;simp only[push_cast,Nat.reduceBEq]
  rw[decide_eq_false hx]
 have hb17:∀ (fr:List Td) (e:Env) (L:List Kx.Item),¬ Form x→go none Tryz.prog 131 v179.1 v179.2 (retQ o179 fun v h=>v=.bool (decide (Form x))) (Td.s ((SC.reg false c179r17).seq .ret) :: fr) e ⟨G,L,[]⟩:=fun fr e L hx=>by
  intros;refine gr 0 0 ?_;refine sJ c179r17.eq_1 ?_
  intros;refine rV ?_;simp only[push_cast,Nat.reduceBEq]
  rw[decide_eq_false hx]
 have w2:∀ (h:0≤x.last - x.base),IntKind.i64.wrap (x.src+(x.last - x.base))=x.src+(x.last - x.base):=fun h=>by rw[w64_id] <;> omega
 have w3:∀ (h:0≤x.last - x.base),IntKind.i64.wrap (x.seq+(x.last - x.base))=x.seq+(x.last - x.base):=fun h=>by rw[w64_id] <;> omega
 have w4:IntKind.i64.wrap (x.gen+x.seq)=x.gen+x.seq:=by rw[w64_id] <;> omega
 intros;refine gr 33 53 ?_;refine sJ c179r4.eq_1 ?_
 refine gd (fun h3=>?_) (fun h3=>?_)
 ·refine sI ?_
  intros;refine gc ?_;refine sI ?_
  exact hb5 _ _ _ fun h=>by have:=of_decide_eq_true h3;have:=h.2.2.1.1;omega
 have h3:=of_decide_eq_false h3
 refine sI ?_
 refine gd (fun h4=>?_) (fun h4=>?_)
 ·refine sI ?_
  intros;refine gc ?_;refine sI ?_
  exact hb5 _ _ _ fun h=>by have:=of_decide_eq_true h4;have:=h.2.2.1.2.1;omega
 have h4:=of_decide_eq_false h4
 (refine sJ (w2 (by omega)) ?_)
 refine gd (fun h5=>?_) (fun h5=>?_)
 ·refine sI ?_
  intros;refine gc ?_;refine sI ?_
  exact hb5 _ _ _ fun h=>by have:=of_decide_eq_true h5;have:=h.2.2.1.2.2.1;omega
 have h5:=of_decide_eq_false h5
 (refine sJ (w3 (by omega)) ?_)
 intros;refine gc ?_;refine sI ?_
 refine gb (fun h6=>?_) (fun h6=>?_)
 ·exact hb5 _ _ _ fun h=>by have:=of_decide_eq_true h6;have:=h.2.2.1.2.2.2;omega
 have h6:=of_decide_eq_false h6
 intros;refine gr 55 62 ?_;refine sJ c179r6.eq_1 ?_
 refine gd (fun h7=>?_) (fun h7=>?_)
 ·refine sI ?_
  intros;refine gc ?_;refine sI ?_
  exact hb7 _ _ _ fun h=>by have:=of_decide_eq_true h7;have:=h.2.2.2.1.1;omega
 have h7:=of_decide_eq_false h7
 refine sI ?_
 intros;refine gc ?_;refine sI ?_
 refine gb (fun h8=>?_) (fun h8=>?_)
 ·exact hb7 _ _ _ fun h=>by have:=of_decide_eq_true h8;have:=h.2.2.2.1.2;omega
 have h8:=of_decide_eq_false h8
 intros;refine gr 64 83 ?_;refine sJ c179r8.eq_1 ?_
 have hrest:∀ (e:Env),(x.pid=-1→x.gen=0∧x.seq=0∧x.txn=false∧x.ctl=0)→e 3=.int .i64 (x.last - x.base) →
   go none Tryz.prog 131 v179.1 v179.2 (retQ o179 fun v h=>v=.bool (decide (Form x))) [Td.s (((SC.reg false c179r10).seq (SC.blk 1 ((SC.reg false c179r11).seq (SC.cond (O.t 85) ((SC.reg false c179r12).seq (((SC.reg false c179r13).seq (SC.blk 2 ((SC.reg false c179r14).seq ((SC.cond (O.t 93) SC.skip (SC.exit 2)).seq ((SC.blk 3 ((SC.reg false c179r15).seq (((SC.reg false c179r16).seq (SC.cond (O.t 111) ((SC.reg false c179r17).seq SC.ret) SC.skip)).seq (SC.reg false c179r18)))).seq (SC.reg false c179r19)))).loop)).seq ((SC.reg false c179r20).seq SC.ret))) (((SC.reg false c179r21).seq (SC.cond (O.t 116) SC.skip (SC.reg false c179r22))).seq (SC.cond (O.t 116) ((SC.reg false c179r23).seq SC.ret) SC.skip)))))).seq ((SC.reg false c179r24).seq SC.ret))] e ⟨G,[.reg 1 [.int .i64 x.base,.int .i64 x.last,.int .i64 x.src,.int .i64 x.epoch,.int .i64 x.pid,.int .i64 x.gen,.int .i64 x.seq,.bool x.txn,.int .i64 x.ctl,.slice A x.recs.length c]],[]⟩:=fun e hpid e3=>by
  refine go_keep [3] ?_
  refine sJ @e3 ?_
  intros;refine gr 0 0 ?_;refine sJ c179r10.eq_1 ?_
  intros;refine gr 86 87 ?_;refine sJ c179r11.eq_1 ?_
  intros;refine gc ?_;refine sI ?_
  have hmk:((x.ctl=0∧rowF x.last x.base x.recs=true)∨((x.ctl=1∨x.ctl=2)∧x.last - x.base=0∧x.recs=[]∧x.txn=true))→Form x:=fun h=>⟨h1,h2,⟨by omega,by omega,by omega,by omega⟩,⟨by omega,by omega⟩,hpid,h⟩
  refine gb (fun k1=>?_) (fun k1=>?_)
  ·have k1:=of_decide_eq_true k1
   intros;refine gr 88 89 ?_;refine sJ c179r12.eq_1 ?_
   intros;refine gr 0 0 ?_;refine sJ c179r13.eq_1 ?_
   (intros;try refine go_st ?_)
   refine go_loop (fun e h=>∃ (k:Nat) (nx:Int),(k≤x.recs.length∧rowF x.last x.base x.recs=rowF x.last nx (x.recs.drop k))∧e 92=.int .i64 k∧e 91=.int .i64 x.recs.length∧e 90=.slice A x.recs.length c∧e 4=.int .i64 nx∧h.G=G∧h.D=[]∧[.reg 1 [.int .i64 x.base,.int .i64 x.last,.int .i64 x.src,.int .i64 x.epoch,.int .i64 x.pid,.int .i64 x.gen,.int .i64 x.seq,.bool x.txn,.int .i64 x.ctl,.slice A x.recs.length c]].Sublist h.L) (fun e h=>x.recs.length - iv (e 92)) ?_ ?_
   ·exact⟨0,x.base,⟨Nat.zero_le _,rfl⟩,eE,eE,eE,eE,rfl,rfl,List.Sublist.refl _⟩
   ·rintro e ⟨G',L,D⟩ ⟨k,nx,⟨hk,hrow⟩,e92,e91,e90,e4,hG,hD,hL⟩
    dsimp only at hG hD hL
    subst hG hD
    refine go_ghost (ghost_sub hL) ?_
    refine go_keep [4,90,91,92] ?_
    refine sJ4 @e4 @e90 @e91 @e92 ?_
    intros;refine gr 0 0 ?_;refine sJ c179r14.eq_1 ?_
    intros;refine gc ?_;refine sI ?_
    refine gb (fun ht=>?_) (fun ht=>?_)
    ·have hkl:k < x.recs.length:=by simpa using ht
     have hw3:=inc_i k c (by omega) hm
     obtain⟨r,hr⟩:∃ r,x.recs[k]?=some r:=⟨x.recs[k],List.getElem?_eq_getElem (by omega)⟩
     have hdr:x.recs.drop k=r :: x.recs.drop (k+1):=by
      have:=List.getElem?_eq_some_iff.1 hr
      rw[List.drop_eq_getElem_cons hkl,this.2]
     rw[hdr]at hrow
     simp only[rowF]at hrow
     have hno:rowF x.last x.base x.recs=false→¬ Form x:=fun h h'=>by
      rcases h'.2.2.2.2.2 with h9 | h9
      ·rw[h]at h9;cases h9.2
      ·omega
     intros;refine gr 94 96 ?_;refine sJ c179r15.eq_1 ?_
     refine hA.x_ld hr rfl rfl ?_
     rintro a1 ha1 cs ⟨rfl,⟨j1,j2⟩,j3,j4⟩
     unfold cellR
     refine sI ?_
     have hck:=Check_ok r
     unfold cellR at hck
     intros;refine gr 96 111 ?_;refine sJ c179r16.eq_1 ?_
     refine(hck G' _ _).mono ?_;rintro _ _ ⟨rfl,rfl⟩;refine sI ?_
     refine gd (fun k2=>?_) (fun k2=>?_)
     ·refine sI ?_
      intros;refine gc ?_;refine sI ?_
      exact hb17 _ _ _ (hno (by rw[hrow];simp at k2;simp[k2]))
     have k2:chkR r=0:=by simpa using k2
     refine sI ?_
     refine gd (fun k3=>?_) (fun k3=>?_)
     ·refine sI ?_
      intros;refine gc ?_;refine sI ?_
      exact hb17 _ _ _ (hno (by rw[hrow];have:=of_decide_eq_true k3;simp;omega))
     have k3:=of_decide_eq_false k3
     refine sI ?_
     intros;refine gc ?_;refine sI ?_
     refine gb (fun k4=>?_) (fun k4=>?_)
     ·exact hb17 _ _ _ (hno (by rw[hrow];have:=of_decide_eq_true k4;simp;omega))
     have k4:=of_decide_eq_false k4
     have hoff:=(chk_small k2).1.1
     simp[inO]at hoff
     have w5:IntKind.i64.wrap (r.off+1)=r.off+1:=by rw[w64_id] <;> omega
     (repeat first | refine go_skip ?_ | refine go_b ?_)
     intros;refine gr 113 115 ?_;refine sJ2 c179r18.eq_1 @w5 ?_
     intros;refine gr 115 116 ?_;refine sJ2 c179r19.eq_1 @hw3 ?_
     (intros;try refine go_st ?_)
     refine go_l ⟨⟨k+1,r.off+1,⟨by omega,by rw[hrow];simp[k2];omega⟩,eE,eE,eE,eE,rfl,rfl,.cons _ (List.Sublist.refl _)⟩,?_⟩
     refine sI ?_
     omega
    ·have hkl:k=x.recs.length:=by simp at ht;omega
     subst hkl
     refine go_exit ?_
     refine sI ?_
     intros;refine gr 0 0 ?_;refine sJ c179r20.eq_1 ?_
     intros;refine rV ?_;simp only[push_cast,Nat.reduceBEq]
     rw[List.drop_length]at hrow
     rw[decide_eq_true (hmk (.inl ⟨k1,hrow⟩))]
  ·have k1:=of_decide_eq_false k1
   have hb24:∀ (fr:List Td) (e:Env) (L:List Kx.Item),¬ Form x→go none Tryz.prog 131 v179.1 v179.2 (retQ o179 fun v h=>v=.bool (decide (Form x))) (Td.s ((SC.reg false c179r24).seq .ret) :: fr) e ⟨G,L,[]⟩:=fun fr e L hx=>by
    intros;refine gr 0 0 ?_;refine sJ c179r24.eq_1 ?_
    intros;refine rV ?_;simp only[push_cast,Nat.reduceBEq]
    rw[decide_eq_false hx]
   have hfin:∀ (fr:List Td) (e:Env),(x.ctl=1∨x.ctl=2)→e 3=.int .i64 (x.last - x.base)→go none Tryz.prog 131 v179.1 v179.2 (retQ o179 fun v h=>v=.bool (decide (Form x))) (Td.s ((SC.reg false c179r23).seq .ret) :: fr) e ⟨G,[.reg 1 [.int .i64 x.base,.int .i64 x.last,.int .i64 x.src,.int .i64 x.epoch,.int .i64 x.pid,.int .i64 x.gen,.int .i64 x.seq,.bool x.txn,.int .i64 x.ctl,.slice A x.recs.length c]],[]⟩:=fun fr e hc12 e3=>by
    refine go_keep [3] ?_
    refine sJ @e3 ?_
    have hnf:∀ (_:¬ (x.last - x.base=0∧x.recs=[]∧x.txn=true)),decide (Form x)=false:=fun hn=>decide_eq_false fun h=>by
     rcases h.2.2.2.2.2 with h9 | h9
     ·exact k1 h9.1
     ·exact hn h9.2
    intros;refine gr 119 131 ?_;refine sJ c179r23.eq_1 ?_
    refine gd (fun k2=>?_) (fun k2=>?_)
    ·have k2:=of_decide_eq_true k2
     refine sI ?_
     refine gd (fun k3=>?_) (fun k3=>?_)
     ·have k3:x.recs=[]:=by have:=of_decide_eq_true k3;exact List.eq_nil_of_length_eq_zero (by omega)
      refine sI ?_
      intros;refine rV ?_;simp only[push_cast,Nat.reduceBEq]
      cases ht:x.txn with
      | false=>rw[hnf fun h=>by rw[ht]at h;cases h.2.2]
      | true=>rw[decide_eq_true (hmk (.inr ⟨hc12,k2,k3,ht⟩))]
     ·have k3:=of_decide_eq_false k3
      refine sI ?_
      intros;refine rV ?_;simp only[push_cast,Nat.reduceBEq]
      rw[hnf fun h=>k3 (by rw[h.2.1];rfl)]
    ·have k2:=of_decide_eq_false k2
     refine sI ?_
     intros;refine rV ?_;simp only[push_cast,Nat.reduceBEq]
     rw[hnf fun h=>k2 h.1]
   intros;refine gr 117 118 ?_;refine sJ c179r21.eq_1 ?_
   intros;refine gc ?_;refine sI ?_
   refine gb (fun k2=>?_) (fun k2=>?_)
   ·(repeat first | refine go_skip ?_ | refine go_b ?_)
    intros;refine gc ?_;refine sI ?_
    refine gb (fun _=>?_) (fun h=>by rw[k2]at h;cases h)
    refine hfin _ _ (.inl (of_decide_eq_true k2)) ?_
    (refine sI ?_;try with_reducible exact True.intro)
   ·have k2:=of_decide_eq_false k2
    intros;refine gr 118 119 ?_;refine sJ c179r22.eq_1 ?_
    intros;refine gc ?_;refine sI ?_
    refine gb (fun k3=>?_) (fun k3=>?_)
    ·refine hfin _ _ (.inr (of_decide_eq_true k3)) ?_
     (refine sI ?_;try with_reducible exact True.intro)
    ·have k3:=of_decide_eq_false k3
     (repeat first | refine go_skip ?_ | refine go_b ?_)
     refine hb24 _ _ _ fun h=>?_
     rcases h.2.2.2.2.2 with h9 | h9
     ·exact k1 h9.1
     ·rcases h9.1 with h9 | h9
      ·exact k2 h9
      ·exact k3 h9
 refine gd (fun h9=>?_) (fun h9=>?_)
 ·have h9:=of_decide_eq_true h9
  refine sJ @w4 ?_
  refine gd (fun h10=>?_) (fun h10=>?_)
  ·refine sI ?_
   intros;refine gc ?_;refine sI ?_
   exact hb9 _ _ _ fun h=>by have:=of_decide_eq_true h10;have:=h.2.2.2.2.1 h9;omega
  have h10:=of_decide_eq_false h10
  refine sI ?_
  refine gd (fun h11=>?_) (fun h11=>?_)
  ·refine sI ?_
   intros;refine gc ?_;refine sI ?_
   exact hb9 _ _ _ fun h=>by have:=(h.2.2.2.2.1 h9).2.2.1;rw[h11]at this;cases this
  refine sI ?_
  intros;refine gc ?_;refine sI ?_
  refine gb (fun h12=>?_) (fun h12=>?_)
  ·exact hb9 _ _ _ fun h=>by have:=of_decide_eq_true h12;have:=(h.2.2.2.2.1 h9).2.2.2;omega
  have h12:=of_decide_eq_false h12
  (repeat first | refine go_skip ?_ | refine go_b ?_)
  refine go_ghost (ghost_sub (.cons _ (.cons _ (List.Sublist.refl _)))) ?_
  refine hrest _ (fun _=>⟨by omega,by omega,h11,by omega⟩) ?_
  (refine sI ?_;try with_reducible exact True.intro)
 ·have h9:=of_decide_eq_false h9
  refine sI ?_
  intros;refine gc ?_;refine sI ?_
  (repeat first | refine go_skip ?_ | refine go_b ?_)
  refine go_ghost (ghost_sub (.cons _ (.cons _ (List.Sublist.refl _)))) ?_
  refine hrest _ (fun h=>absurd h h9) ?_
  (refine sI ?_;try with_reducible exact True.intro)
abbrev W32:=BitVec 32
def vW(v:W32):Value:=.int .u32 (v.toNat:Int)
def poly:W32:=3988292384#32
def stp(v:W32):W32:=(v >>> 1) ^^^ (if v.getLsbD 0=true then poly else 0#32)
def stpN:Nat→W32→W32
 | 0,v=>v
 | n+1,v=>stp (stpN n v)
theorem stp_xor(a b:W32):stp (a ^^^ b)=stp a ^^^ stp b:=by
 unfold stp
 rw[BitVec.ushiftRight_xor_distrib,BitVec.getLsbD_xor]
 generalize a >>> 1=x
 generalize b >>> 1=y
 cases a.getLsbD 0 <;> cases b.getLsbD 0 <;> simp
 ·rw[BitVec.xor_assoc]
 ·rw[BitVec.xor_assoc,BitVec.xor_assoc,BitVec.xor_comm poly y]
 ·rw[BitVec.xor_assoc,BitVec.xor_comm poly (y ^^^ poly),BitVec.xor_assoc,BitVec.xor_self,BitVec.xor_zero]
theorem stpN_xor(a b:W32):∀ n,stpN n (a ^^^ b)=stpN n a ^^^ stpN n b
 | 0=>rfl
 | n+1=>by rw[stpN,stpN_xor a b n,stp_xor];rfl
theorem stp_even{v:W32}(h:v.getLsbD 0=false):stp v=v >>> 1:=by rw[stp,if_neg (by rw[h];simp),BitVec.xor_zero]
theorem stpN_low{v:W32}:∀ n,(∀ i,i < n→v.getLsbD i=false)→stpN n v=v >>> n
 | 0,_=>by simp[stpN]
 | n+1,h=>by
  rw[stpN,stpN_low n fun i hi=>h i (by omega),stp_even (by rw[BitVec.getLsbD_ushiftRight];exact h _ (by omega))]
  rw[BitVec.shiftRight_add]
theorem stp_four(v:W32):stpN 4 v=stpN 4 (v &&& 15#32) ^^^ (v >>> 4):=by
 have h1:v=(v &&& 15#32) ^^^ (v &&& ~~~15#32):=by
  apply BitVec.eq_of_getLsbD_eq
  intro i hi
  simp only[BitVec.getLsbD_xor,BitVec.getLsbD_and,BitVec.getLsbD_not]
  cases v.getLsbD i <;> cases (15#32).getLsbD i <;> simp[hi]
 have h2:stpN 4 (v &&& ~~~15#32)=v >>> 4:=by
  rw[stpN_low 4]
  ·apply BitVec.eq_of_getLsbD_eq
   intro i hi
   simp only[BitVec.getLsbD_ushiftRight,BitVec.getLsbD_and,BitVec.getLsbD_not]
   by_cases h:4+i < 32
   ·have:(15#32).getLsbD (4+i)=false:=by
     rw[BitVec.getLsbD_ofNat]
     have:Nat.testBit 15 (4+i)=false:=Nat.testBit_lt_two_pow (Nat.lt_of_lt_of_le (by decide:15 < 2 ^ 4) (Nat.pow_le_pow_right (by decide) (by omega)))
     simp[this]
    rw[this]
    simp only[h,decide_true,Bool.not_false,Bool.and_true]
   ·rw[BitVec.getLsbD_of_ge v (4+i) (by omega)]
    simp
  ·intro i hi
   have:(15#32).getLsbD i=true:=by
    match i,hi with
    | 0,_=>rfl
    | 1,_=>rfl
    | 2,_=>rfl
    | 3,_=>rfl
   rw[BitVec.getLsbD_and,BitVec.getLsbD_not,this]
   simp
 conv=>lhs;rw[h1,stpN_xor,h2]
theorem stpN_add(v:W32):∀ m n,stpN (m+n) v=stpN m (stpN n v)
 | 0,n=>by rw[Nat.zero_add];rfl
 | m+1,n=>by rw[Nat.succ_add,stpN,stpN_add v m n];rfl
def ofB(b:UInt8):W32:=BitVec.ofNat 32 b.toNat
def upd(v:W32)(c:UInt8):W32:=stpN 8 (v ^^^ ofB c)
def half4(v:W32):W32:=stpN 4 (v &&& 15#32) ^^^ (v >>> 4)
theorem upd_eq(v:W32)(c:UInt8):upd v c=half4 (half4 (v ^^^ ofB c)):=by
 rw[half4,← stp_four,half4,← stp_four,← stpN_add]
 rfl
def crcB(l:List UInt8):W32 := ~~~ (l.foldl upd 4294967295#32)
theorem ofW(a:W32):BitVec.ofInt 32 (a.toNat:Int)=a:=by
 rw[BitVec.ofInt_natCast,BitVec.ofNat_toNat]
 simp
theorem wrapW(a:W32):IntKind.u32.wrap (a.toNat:Int)=(a.toNat:Int):=by
 have:=a.isLt
 simp only[IntKind.wrap,IntKind.bits,IntKind.signed]
 simp
 omega
theorem bin_xorW(a b:W32):binV .xor (vW a) (vW b)=some (vW (a ^^^ b)):=by
 simp only[binV,vW]
 rw[if_pos trivial]
 have:(BitVec.ofInt IntKind.u32.bits (a.toNat:Int) ^^^ BitVec.ofInt IntKind.u32.bits (b.toNat:Int)).toNat=(a ^^^ b).toNat:=by
  show(BitVec.ofInt 32 (a.toNat:Int) ^^^ BitVec.ofInt 32 (b.toNat:Int)).toNat=_
  rw[ofW,ofW]
 rw[this,wrapW]
theorem bin_andW(a b:W32):binV .and (vW a) (vW b)=some (vW (a &&& b)):=by
 simp only[binV,vW]
 rw[if_pos trivial]
 have:(BitVec.ofInt IntKind.u32.bits (a.toNat:Int) &&& BitVec.ofInt IntKind.u32.bits (b.toNat:Int)).toNat=(a &&& b).toNat:=by
  show(BitVec.ofInt 32 (a.toNat:Int) &&& BitVec.ofInt 32 (b.toNat:Int)).toNat=_
  rw[ofW,ofW]
 rw[this,wrapW]
theorem bin_shrW(a:W32)(k:Nat)(hk:k≤32):binV .shr (vW a) (.int .u64 (k:Int))=some (vW (a >>> k)):=by
 simp only[binV,vW]
 rw[if_pos (by omega)]
 congr 2
 have h1:min ((k:Int)).toNat IntKind.u32.bits=k:=by simp[IntKind.bits];omega
 rw[h1,BitVec.toNat_ushiftRight,Nat.shiftRight_eq_div_pow]
 rw[Int.fdiv_eq_ediv_of_nonneg _ (by exact_mod_cast Nat.zero_le _)]
 exact_mod_cast rfl
theorem u8_32(c:UInt8):Value.int .u32 (IntKind.u32.wrap (c.toNat:Int))=vW (ofB c):=by
 have h:=c.toNat_lt
 have h2:(ofB c).toNat=c.toNat:=by simp[ofB]
 have:=wrapW (ofB c)
 rw[h2]at this
 rw[vW,h2,this]
theorem F230:Fun Tryz.prog 230 14 v230 c230 o230:=Fun.mk' Tryz.func230 Tryz.ntmps230 (by kernel_rfl) (by kernel_rfl) s230 q230
theorem bit0(v:W32):v.getLsbD 0=true↔v.toNat % 2=1:=by
 rw[BitVec.getLsbD,Nat.testBit_zero]
 simp
theorem F220:Fun Tryz.prog 220 13 v220 c220 o220:=Fun.mk' Tryz.func220 Tryz.ntmps220 (by kernel_rfl) (by kernel_rfl) s220 q220
theorem F231:Fun Tryz.prog 231 24 v231 c231 o231:=Fun.mk' Tryz.func231 Tryz.ntmps231 (by kernel_rfl) (by kernel_rfl) s231 q231
theorem F211:Fun Tryz.prog 211 21 v211 c211 o211:=Fun.mk' Tryz.func211 Tryz.ntmps211 (by kernel_rfl) (by kernel_rfl) s211 q211
theorem bin_and1(v:W32):binV .and (vW v) (.int .u32 1)=some (vW (v &&& 1#32)):=bin_andW v 1#32
theorem bin_and15(v:W32):binV .and (vW v) (.int .u32 15)=some (vW (v &&& 15#32)):=bin_andW v 15#32
theorem bin_Pand(v:W32):binV .and (.int .u32 3988292384) (vW v)=some (vW (poly &&& v)):=bin_andW poly v
theorem bin_shr1(v:W32):binV .shr (vW v) (.int .u64 1)=some (vW (v >>> 1)):=bin_shrW v 1 (by omega)
theorem bin_shr4(v:W32):binV .shr (vW v) (.int .u64 4)=some (vW (v >>> 4)):=bin_shrW v 4 (by omega)
theorem un_negW(v:W32):unV .neg (vW v)=some (vW (-v)):=by
 have:=v.isLt
 simp only[unV,vW]
 congr 2
 rw[BitVec.toNat_neg]
 simp only[IntKind.wrap,IntKind.bits,IntKind.signed]
 simp
 omega
theorem un_notW(v:W32):unV .xor (vW v)=some (vW (~~~v)):=by
 simp only[unV,vW]
 have:(BitVec.ofInt IntKind.u32.bits (if IntKind.u32.signed=true then -1 else IntKind.u32.max) ^^^ BitVec.ofInt IntKind.u32.bits (v.toNat:Int)).toNat=(~~~v).toNat:=by
  show(BitVec.ofInt 32 4294967295 ^^^ BitVec.ofInt 32 (v.toNat:Int)).toNat=_
  have h1:BitVec.ofInt 32 4294967295=BitVec.allOnes 32:=by decide
  rw[ofW,h1,BitVec.allOnes_xor]
 rw[this,wrapW]
theorem stp_and(v:W32):(v >>> 1) ^^^ (poly &&& -(v &&& 1#32))=stp v:=by
 have h1:v &&& 1#32=if v.getLsbD 0=true then 1#32 else 0#32:=by
  apply BitVec.eq_of_toNat_eq
  rw[BitVec.toNat_and]
  have:(1#32).toNat=1:=rfl
  rw[this,Nat.and_one_is_mod]
  by_cases h:v.getLsbD 0=true
  ·rw[if_pos h,(bit0 v).1 h];rfl
  ·rw[if_neg h]
   have h3:¬ v.toNat % 2=1:=fun h9=>h ((bit0 v).2 h9)
   have h2:v.toNat % 2=0:=by omega
   rw[h2]
   rfl
 rw[h1,stp]
 by_cases h:v.getLsbD 0=true
 ·rw[if_pos h,if_pos h]
  have:poly &&& -1#32=poly:=by decide
  rw[this]
 ·rw[if_neg h,if_neg h]
  have:poly &&& -0#32=0#32:=by decide
  rw[this]
theorem half_ok(v:W32)(G:Nat→Option Obj):FnS Tryz.prog 230 #[vW v] G (vW (stpN 4 v)):=by
 refine F230.fnS (by simp) (go_of ?_)
 unfold c230
 intros;refine gr 0 0 ?_;refine sJ c230r0.eq_1 ?_
 intros;refine gr 0 0 ?_;refine sJ c230r1.eq_1 ?_
 (intros;try refine go_st ?_)
 refine go_loop (fun e h=>∃ k:Nat,k≤4∧e 3=.int .i64 k∧e 0=vW (stpN k v)∧h=⟨G,[],[]⟩) (fun e h=>4 - iv (e 3)) ?_ ?_
 ·exact⟨0,Nat.zero_le _,eE,by refine sI ?_;rfl,rfl⟩
 ·rintro e h ⟨k,hk,e3,e0,rfl⟩
  refine go_keep [0,3] ?_
  refine sJ2 @e0 @e3 ?_
  intros;refine gr 0 0 ?_;refine sJ c230r2.eq_1 ?_
  intros;refine gc ?_;refine sI ?_
  refine gb (fun h1=>?_) (fun h1=>?_)
  ·have hkn:k < 4:=by simp at h1;omega
   have hw3:=inc_i k 4 (by omega) (by unfold maxLen;omega)
   intros;refine gr 5 12 ?_;refine sJ7 c230r3.eq_1 @bin_shr1 @bin_and1 @un_negW @bin_Pand @bin_xorW @stp_and ?_
   intros;refine gr 12 13 ?_;refine sJ2 c230r4.eq_1 @hw3 ?_
   (intros;try refine go_st ?_)
   refine go_l ⟨⟨k+1,by omega,eE,by refine sI ?_;rfl,rfl⟩,?_⟩
   refine sI ?_
   omega
  ·have hkn:k=4:=by simp at h1;omega
   subst hkn
   refine go_exit ?_
   refine sI ?_
   intros;refine gr 13 14 ?_;refine sJ c230r5.eq_1 ?_
   intros;refine rV ?_;simp only[push_cast,Nat.reduceBEq]
def TabAt(G:Nat→Option Obj)(v:Value):Prop:=∃ b,v=.pointer (some ⟨b,0,none⟩)∧∀ i:Nat,i < 16→cellG G ⟨b,i,none⟩=some (vW (stpN 4 (BitVec.ofNat 32 i)))
theorem TabAt.le{G G':Nat→Option Obj}{v:Value}(h:TabAt G v)(hg:Gle G G'):TabAt G' v:=by
 obtain⟨b,h1,h2⟩:=h
 exact⟨b,h1,fun i hi=>cellG_le hg (h2 i hi)⟩
theorem and15(v:W32):(v &&& 15#32).toNat < 16∧BitVec.ofNat 32 (v &&& 15#32).toNat=v &&& 15#32:=by
 refine⟨?_,by simp⟩
 rw[BitVec.toNat_and]
 exact Nat.lt_of_le_of_lt Nat.and_le_right (by decide)
theorem ix_W{b n:Nat}{v:W32}(h:v.toNat < n):ixPV n 1 (.pointer (some ⟨b,0,none⟩)) (vW v)=some (.pointer (some ⟨b,v.toNat,none⟩)):=by
 simp only[ixPV,vW]
 rw[if_pos ⟨by omega,by omega⟩]
 simp[add_off]
theorem add_ok(v:W32)(c:UInt8)(p:Value)(G:Nat→Option Obj)(hp:TabAt G p):FnS Tryz.prog 231 #[vW v,.int .u8 (c.toNat:Int),p] G (vW (upd v c)):=by
 obtain⟨b,rfl,ht⟩:=hp
 refine F231.fnS (by simp) (go_of ?_)
 unfold c231
 intros;refine gr 0 0 ?_;refine sJ c231r0.eq_1 ?_
 intros;refine gr 6 10 ?_;refine sJ3 c231r1.eq_1 @u8_32 @bin_xorW ?_
 rw[upd_eq]
 generalize v ^^^ ofB c=x
 obtain⟨g1,g2⟩:=and15 x
 intros;refine gr 10 17 ?_;(try simp -implicitDefEqProofs only[kR_e,kQ_e,push_cast,Nat.reduceBEq,Nat.reduceAdd,Nat.reduceSub,Nat.reduceMul,Nat.reduceLT,Nat.reduceLeDiff,Nat.reduceEqDiff,reduceIte,Bool.not_true,Bool.not_false,true_and,and_true,Option.map_some,Option.bind_some,Int.toNat_natCast,c231r2,bin_and15,ix_W g1])
 refine⟨_,⟨_,rfl,.g (ht _ g1)⟩,?_⟩
 rw[g2]
 refine sJ2 @bin_shr4 @bin_xorW ?_
 rw[← half4]
 generalize half4 x=y
 obtain⟨k1,k2⟩:=and15 y
 intros;refine gr 17 24 ?_;(try simp -implicitDefEqProofs only[kR_e,kQ_e,push_cast,Nat.reduceBEq,Nat.reduceAdd,Nat.reduceSub,Nat.reduceMul,Nat.reduceLT,Nat.reduceLeDiff,Nat.reduceEqDiff,reduceIte,Bool.not_true,Bool.not_false,true_and,and_true,Option.map_some,Option.bind_some,Int.toNat_natCast,c231r3,bin_and15,ix_W k1])
 refine⟨_,⟨_,rfl,.g (ht _ k1)⟩,?_⟩
 rw[k2]
 refine sJ2 @bin_shr4 @bin_xorW ?_
 intros;refine rV ?_;simp only[push_cast,Nat.reduceBEq]
 rfl
theorem splice1{cs:List Value}{o:Nat}(x:Value)(h:o < cs.length):splice cs o [x]=cs.set o x:=by
 rw[splice,List.set_eq_take_append_cons_drop,if_pos h]
 simp
theorem adder_ok(G:Nat→Option Obj):FnD Tryz.prog 220 #[] G (fun G' r=>∃ p,r=.func (.func 231) #[] #[p]∧TabAt G' p):=by
 refine F220.fnD (by simp) (go_of ?_)
 unfold c220
 intros;refine gr 0 0 ?_;refine sJ c220r0.eq_1 ?_
 intros;refine gr 0 0 ?_;refine sJ c220r1.eq_1 ?_
 intro b hb
 refine sI ?_
 intros;refine gr 0 0 ?_;refine sJ c220r2.eq_1 ?_
 (intros;try refine go_st ?_)
 refine go_loop (fun e h=>∃ (k:Nat) (cs:List Value),(k≤16∧cs.length=16∧∀ i,i < k→cs[i]?=some (vW (stpN 4 (BitVec.ofNat 32 i))))∧e 3=.int .i64 k∧e 1=.pointer (some ⟨b,0,none⟩)∧h=⟨G,[.blk b cs],[]⟩) (fun e h=>16 - iv (e 3)) ?_ ?_
 ·exact⟨0,_,⟨Nat.zero_le _,rfl,fun i hi=>by omega⟩,eE,eE,rfl⟩
 ·rintro e h ⟨k,cs,⟨hk,hl,ht⟩,e3,e1,rfl⟩
  refine go_keep [1,3] ?_
  refine sJ2 @e1 @e3 ?_
  intros;refine gr 0 0 ?_;refine sJ c220r3.eq_1 ?_
  intros;refine gc ?_;refine sI ?_
  refine gb (fun h1=>?_) (fun h1=>?_)
  ·have hkn:k < 16:=by simp at h1;omega
   have hw3:=inc_i k 16 (by omega) (by unfold maxLen;omega)
   have hkw:Value.int .u32 (IntKind.u32.wrap (k:Int))=vW (BitVec.ofNat 32 k):=by
    have h2:(BitVec.ofNat 32 k).toNat=k:=by simp;omega
    have:=wrapW (BitVec.ofNat 32 k)
    rw[h2]at this
    rw[vW,h2,this]
   intros;refine gr 5 6 ?_;refine sJ c220r4.eq_1 ?_
   intros;refine gr 6 11 ?_;refine sJ2 c220r5.eq_1 @hkw ?_
   refine(half_ok (BitVec.ofNat 32 k) G _ _).mono ?_;rintro _ _ ⟨rfl,rfl⟩;refine sI ?_
   refine⟨by omega,?_⟩
   refine stX_blk (xs:=[vW (stpN 4 (BitVec.ofNat 32 k))]) [] [] rfl (by simp;omega) ⟨rfl,rfl⟩ ?_
   rw[splice1 _ (by omega),show 0+k * 1=k by omega]
   refine sI ?_
   intros;refine gr 11 12 ?_;refine sJ2 c220r6.eq_1 @hw3 ?_
   (intros;try refine go_st ?_)
   refine go_l ⟨⟨k+1,_,⟨by omega,by simp[hl],fun i hi=>?_⟩,eE,eE,rfl⟩,?_⟩
   ·rw[List.getElem?_set]
    by_cases hik:k=i
    ·rw[if_pos hik,if_pos (by omega),← hik]
    ·rw[if_neg hik];exact ht i (by omega)
   ·refine sI ?_
    omega
  ·have hkn:k=16:=by simp at h1;omega
   subst hkn
   refine go_exit ?_
   refine sI ?_
   intros;refine gr 12 13 ?_;refine sJ c220r7.eq_1 ?_
   (intros;try refine go_st ?_)
   refine go_gx (gx_blk_at [] []) ?_
   rintro h' ⟨G2,rfl,hg2,hc⟩
   intros;refine rV ?_;simp only[push_cast,Nat.reduceBEq]
   exact⟨_,rfl,b,rfl,fun i hi=>by simpa [add_off]using hc i _ (ht i hi)⟩
theorem fold_succ{l:List UInt8}{k:Nat}{x:UInt8}(hx:l[k]?=some x)(v:W32):(l.take (k+1)).foldl upd v=upd ((l.take k).foldl upd v) x:=by
 have hk:=List.getElem?_eq_some_iff.1 hx
 rw[List.take_succ_eq_append_getElem hk.1,hk.2]
 simp
theorem Sum_ok(l:List UInt8)(v:Value)(G:Nat→Option Obj)(hl:SB G v l):FnD Tryz.prog 211 #[v] G (fun _ r=>r=vW (crcB l)):=by
 refine F211.fnD (by simp) (go_of ?_)
 obtain⟨A,c,rfl,hc,hm,hA⟩:=hl
 unfold c211
 intros;refine gr 0 0 ?_;refine sJ c211r0.eq_1 ?_
 intros;refine gr 7 8 ?_;refine sJ c211r1.eq_1 ?_
 refine(adder_ok G _ []).mono ?_
 rintro r h' ⟨G1,rfl,hg1,p,rfl,hp⟩
 refine sI ?_
 have hA1:=hA.le hg1 (E':=UE) fun _ _ h=>h
 intros;refine gr 0 0 ?_;refine sJ c211r2.eq_1 ?_
 intros;refine gr 0 0 ?_;refine sJ c211r3.eq_1 ?_
 (intros;try refine go_st ?_)
 refine go_loop (fun e h=>∃ k:Nat,k≤l.length∧e 10=.int .i64 k∧e 9=.int .i64 l.length∧e 8=.slice A l.length c∧e 3=.func (.func 231) #[] #[p]∧e 4=vW ((l.take k).foldl upd 4294967295#32)∧h=⟨G1,[],[]⟩) (fun e h=>l.length - iv (e 10)) ?_ ?_
 ·exact⟨0,Nat.zero_le _,eE,eE,eE,eE,by refine sI ?_;rfl,rfl⟩
 ·rintro e h ⟨k,hk,e10,e9,e8,e3,e4,rfl⟩
  refine go_keep [3,4,8,9,10] ?_
  refine sJ5 @e3 @e4 @e8 @e9 @e10 ?_
  intros;refine gr 0 0 ?_;refine sJ c211r4.eq_1 ?_
  intros;refine gc ?_;refine sI ?_
  refine gb (fun h1=>?_) (fun h1=>?_)
  ·have hkn:k < l.length:=by simpa using h1
   have hw3:=inc_i k c (by omega) hm
   obtain⟨x,hx⟩:∃ x,l[k]?=some x:=⟨l[k],List.getElem?_eq_getElem (by omega)⟩
   intros;refine gr 12 14 ?_;refine sJ c211r5.eq_1 ?_
   refine hA1.x_l1 hx rfl rfl ?_
   rintro a1 ha1 u1 hu
   cases hu
   refine sI ?_
   intros;refine gr 14 18 ?_;refine sJ c211r6.eq_1 ?_
   refine .inl ⟨_,_,rfl,(add_ok _ x p G1 hp _ _).mono ?_⟩
   rintro _ _ ⟨rfl,rfl⟩
   refine sI ?_
   intros;refine gr 18 19 ?_;refine sJ2 c211r7.eq_1 @hw3 ?_
   (intros;try refine go_st ?_)
   refine go_l ⟨⟨k+1,by omega,eE,eE,eE,eE,by rw[fold_succ hx];(refine sI ?_;try with_reducible exact True.intro),rfl⟩,?_⟩
   refine sI ?_
   omega
  ·have hkn:k=l.length:=by simp at h1;omega
   subst hkn
   refine go_exit ?_
   refine sI ?_
   intros;refine gr 19 21 ?_;refine sJ2 c211r8.eq_1 @un_notW ?_
   intros;refine rV ?_;simp only[push_cast,Nat.reduceBEq]
   rw[List.take_length]
   rfl
theorem F203:Fun Tryz.prog 203 33 v203 c203 o203:=Fun.mk' Tryz.func203 Tryz.ntmps203 (by kernel_rfl) (by kernel_rfl) s203 q203
theorem F202:Fun Tryz.prog 202 9 v202 c202 o202:=Fun.mk' Tryz.func202 Tryz.ntmps202 (by kernel_rfl) (by kernel_rfl) s202 q202
def putN(n k:Nat):List UInt8:=(List.range k).map fun i=>UInt8.ofNat (n / 256 ^ (k - 1 - i))
theorem putN_len(n k:Nat):(putN n k).length=k:=by simp[putN]
theorem putN_take{n k i:Nat}(h:i < k):(putN n k).take (i+1)=(putN n k).take i++[UInt8.ofNat (n / 256 ^ (k - 1 - i))]:=by
 have hl:i < (putN n k).length:=by rw[putN_len];exact h
 rw[List.take_succ_eq_append_getElem hl]
 congr 2
 simp[putN]
def sealB(l:List UInt8):List UInt8:=l++putN (crcB l).toNat 4
theorem bin_shrN(n s:Nat)(hs:s≤64):binV .shr (.int .u64 (n:Int)) (.int .i64 (s:Int))=some (.int .u64 ((n / 2 ^ s:Nat):Int)):=by
 simp only[binV]
 rw[if_pos (by omega)]
 congr 2
 have h1:min ((s:Int)).toNat IntKind.u64.bits=s:=by simp[IntKind.bits];omega
 rw[h1,Int.fdiv_eq_ediv_of_nonneg _ (by exact_mod_cast Nat.zero_le _)]
 exact_mod_cast rfl
theorem OPut_ok(l:List UInt8)(n k:Nat)(hn:n < 18446744073709551616)(hk:1≤k∧k≤8)(v:Value)(G:Nat→Option Obj)(hl:SB G v l)(hb:l.length≤100000):
  FnO Tryz.prog 203 #[v,.int .u64 (n:Int),.int .i64 (k:Int)] G [] (fun _ L' r=>OwnB (l++putN n k) L' r):=by
 refine F203.fnO (by simp) noRegs_nil (go_of ?_)
 have hl0:=hl
 obtain⟨A,c,rfl,hc,hm,hA⟩:=hl
 unfold c203
 intros;refine gr 0 0 ?_;refine sJ c203r0.eq_1 ?_
 intros;refine gr 9 11 ?_;refine sJ c203r1.eq_1 ?_
 refine(Clone_ok l _ G hl0 (by omega) _ []).mono ?_
 rintro r h' ⟨G1,L',rfl,hg1,ys,hys,rfl⟩
 refine sI ?_
 intros;refine gr 11 16 ?_;refine sJ c203r2.eq_1 ?_
 refine gd (fun h1=>by simp at h1;omega) (fun h1=>?_)
 refine sI ?_
 intros;refine gc ?_;refine sI ?_
 refine gb (fun h2=>by simp at h2;omega) (fun h2=>?_)
 have w1:IntKind.i64.wrap ((k:Int) - 1)=(k:Int) - 1:=by rw[w64_id] <;> omega
 have w2:IntKind.i64.wrap (8 * ((k:Int) - 1))=8 * (k:Int) - 8:=by rw[w64_id] <;> omega
 (repeat first | refine go_skip ?_ | refine go_b ?_)
 intros;refine gr 18 21 ?_;refine sJ3 c203r4.eq_1 @w1 @w2 ?_
 (intros;try refine go_st ?_)
 refine go_loop (fun e h=>∃ (i:Nat) (zc:List Value) (u:Value),(i≤k∧Cells UE 1 (l++(putN n k).take i) zc)∧e 8=.int .i64 (8 * (k:Int) - 8 - 8 * i)∧e 1=.int .u64 (n:Int)∧e 7=u∧h.G=G1∧h.D=[]∧[Item.row u 5 1 (l++(putN n k).take i).length zc].Sublist h.L) (fun e h=>iv1 (e 8)) ?_ ?_
 ·exact⟨0,ys,r,⟨Nat.zero_le _,by simpa using hys⟩,by refine sI ?_;simp,eE,eE,rfl,rfl,by simp⟩
 ·rintro e ⟨G',L,D⟩ ⟨i,zc,u,⟨hi,hcs⟩,e8,e1,e7,hG,hD,hL⟩
  dsimp only at hG hD hL
  subst hG hD
  refine go_ghost (ghost_sub hL) ?_
  refine go_keep [1,7,8] ?_
  refine sJ3 @e1 @e7 @e8 ?_
  intros;refine gr 21 22 ?_;refine sJ c203r5.eq_1 ?_
  intros;refine gc ?_;refine sI ?_
  refine gb (fun ht=>?_) (fun ht=>?_)
  ·have hik:i < k:=by have:=of_decide_eq_true ht;omega
   have htk:=putN_take (n:=n) hik
   have hsh:binV .shr (.int .u64 (n:Int)) (.int .i64 (8 * (k:Int) - 8 - 8 * i))=some (.int .u64 ((n / 256 ^ (k - 1 - i):Nat):Int)):=by
    have e1:8 * (k:Int) - 8 - 8 * i=((8 * (k - 1 - i):Nat):Int):=by omega
    rw[e1,bin_shrN n _ (by omega),Nat.pow_mul]
   generalize n / 256 ^ (k - 1 - i)=q at htk hsh
   have w3:IntKind.i64.wrap (8 * (k:Int) - 8 - 8 * i - 8)=8 * (k:Int) - 8 - 8 * ((i+1:Nat):Int):=by rw[w64_id] <;> omega
   have hll:(l++(putN n k).take i).length≤200000:=by simp[putN_len];omega
   intros;refine gr 25 32 ?_;refine sJ3 c203r6.eq_1 @hsh @u8_nat ?_
   intro bk hbk
   refine app8 (L1:=[]) (L2:=[]) rfl rfl hcs (by omega) fun A' c' zc' hzc=>?_
   rw[List.append_assoc,← htk]at hzc ⊢
   refine sI ?_
   intros;refine gr 23 25 ?_;refine sJ2 c203r7.eq_1 @w3 ?_
   (intros;try refine go_st ?_)
   refine go_l ⟨⟨i+1,zc',_,⟨by omega,hzc⟩,eE,eE,eE,rfl,rfl,.cons _ (List.Sublist.refl _)⟩,?_⟩
   refine sJ @iv1_i ?_
   omega
  ·have hik:i=k:=by have:=of_decide_eq_false ht;omega
   subst hik
   refine go_exit ?_
   refine sI ?_
   intros;refine gr 32 33 ?_;refine sJ c203r8.eq_1 ?_
   (intros;try refine go_st ?_)
   rw[List.take_of_length_le (by rw[putN_len];exact Nat.le_refl _)]at hcs ⊢
   refine go_ret (retQ_o _ rfl (List.Sublist.refl _) (noRegs_row noRegs_nil) ?_)
   exact⟨zc,hcs,rfl⟩
theorem sealB_len(l:List UInt8):(sealB l).length=l.length+4:=by simp[sealB,putN_len]
theorem u64_W(v:W32):IntKind.u64.wrap (v.toNat:Int)=(v.toNat:Int):=by
 have:=v.isLt
 simp only[IntKind.wrap,IntKind.bits,IntKind.signed]
 simp
 omega
theorem Seal_ok(l:List UInt8)(v:Value)(G:Nat→Option Obj)(hl:SB G v l)(hb:l.length≤100000):FnO Tryz.prog 202 #[v] G [] (fun _ L' r=>OwnB (sealB l) L' r):=by
 refine F202.fnO (by simp) noRegs_nil (go_of ?_)
 unfold c202
 have hsum:=Sum_ok l v G hl
 unfold sealB
 generalize crcB l=w at hsum ⊢
 intros;refine gr 0 0 ?_;refine sJ c202r0.eq_1 ?_
 intros;refine gr 3 9 ?_;refine sJ c202r1.eq_1 ?_
 refine apX_v (.inr ⟨⟨none,rfl⟩,rfl,rfl,rfl,rfl⟩) hl rfl UE1 (by unfold maxLen;omega) fun ys A c hc=>?_
 simp only[Nat.zero_add,List.nil_append]
 refine sI ?_
 refine(hsum _ []).mono ?_
 rintro r h' ⟨G1,rfl,hg1,rfl⟩
 unfold vW
 refine sJ @u64_W ?_
 refine callsH_gx F203.enters (gx_slv_at [] _ (by decide) hc) ?_
 rintro h' ⟨G2,rfl,hg2,hv2⟩
 refine(OPut_ok l w.toNat 4 (by have:=w.isLt;omega) (by omega) _ G2 hv2 hb _ []).mono ?_
 rintro r h' ⟨G3,L',rfl,hg3,ys3,hys3,rfl⟩
 refine sI ?_
 (intros;try refine go_st ?_)
 refine go_ret (retQ_o _ rfl (List.Sublist.refl _) (noRegs_row noRegs_nil) ?_)
 exact⟨ys3,hys3,rfl⟩
def headN(b:Batch):List Int:=[b.base,b.last - b.base,b.src,b.epoch,b.pid,b.gen,b.seq]
def headB(l:List Int):List UInt8:=l.flatMap pvB
def markB(b:Batch):UInt8:=UInt8.ofNat (b.ctl.toNat+if b.txn=true then 4 else 0)
def recsB(base stamp:Int)(l:List Rec):List UInt8:=l.flatMap fun r=>prB r base stamp
def tailB(b:Batch):List UInt8:=match b.recs with
 | []=>[]
 | r :: rs=>pvB r.stamp++recsB b.base r.stamp (r :: rs)
def bodyB(b:Batch):List UInt8:=headB (headN b)++[markB b]++pvB b.recs.length++tailB b
def bytesB(b:Batch):List UInt8:=putN (sealB (bodyB b)).length 4++sealB (bodyB b)
theorem headB_len:∀ (l:List Int),(headB l).length≤10 * l.length
 | []=>by simp[headB]
 | n :: l=>by
  have:=headB_len l
  have h2:=pvB_len n
  simp[headB]at this ⊢
  omega
theorem headB_succ{l:List Int}{k:Nat}{n:Int}(h:l[k]?=some n):headB (l.take (k+1))=headB (l.take k)++pvB n:=by
 have hk:=List.getElem?_eq_some_iff.1 h
 rw[List.take_succ_eq_append_getElem hk.1,hk.2]
 simp[headB]
theorem recsB_succ{base stamp:Int}{l:List Rec}{k:Nat}{r:Rec}(h:l[k]?=some r):recsB base stamp (l.take (k+1))=recsB base stamp (l.take k)++prB r base stamp:=by
 have hk:=List.getElem?_eq_some_iff.1 h
 rw[List.take_succ_eq_append_getElem hk.1,hk.2]
 simp[recsB]
theorem prB_len{r:Rec}{base stamp:Int}(hk:r.key.size≤64)(hv:r.val.size≤64):(prB r base stamp).length≤169:=by
 have h1:=pvB_len (r.off - base)
 have h2:=pvB_len (r.stamp - stamp)
 have h3:=ptB_len r.key
 have h4:=ptB_len r.val
 simp[prB]
 omega
theorem rowF_all:∀ (l:List Rec) (last nx:Int),rowF last nx l=true→(∀ r∈l,chkR r=0)∧nx+l.length≤max nx (last+1)
 | [],last,nx,_=>⟨by simp,by simp;omega⟩
 | r :: l,last,nx,h=>by
  simp only[rowF,Bool.and_eq_true,decide_eq_true_eq]at h
  obtain⟨⟨⟨h1,h2⟩,h3⟩,h4⟩:=h
  obtain⟨h5,h6⟩:=rowF_all l last (r.off+1) h4
  refine⟨fun x hx=>?_,?_⟩
  ·rcases List.mem_cons.1 hx with rfl | hx
   ·exact h1
   ·exact h5 x hx
  ·simp
   omega
theorem form_recs{b:Batch}(h:Form b):(∀ r∈b.recs,chkR r=0)∧b.recs.length≤16:=by
 rcases h.2.2.2.2.2 with h9 | h9
 ·obtain⟨h1,h2⟩:=rowF_all _ _ _ h9.2
  have:=h.2.2.1
  exact⟨h1,by omega⟩
 ·rw[h9.2.2.1]
  exact⟨by simp,by simp⟩
theorem F180:Fun Tryz.prog 180 91 v180 c180 o180:=Fun.mk' Tryz.func180 Tryz.ntmps180 (by kernel_rfl) (by kernel_rfl) s180 q180
theorem head_at{b:Batch}{k:Nat}{n:Int}(h:(headN b)[k]?=some n):ixVV 7 1 none (.agg #[.int .i64 b.base,.int .i64 (b.last - b.base),.int .i64 b.src,.int .i64 b.epoch,.int .i64 b.pid,.int .i64 b.gen,.int .i64 b.seq]) (.int .i64 (k:Int))=some (.int .i64 n):=by
 have hk:=(List.getElem?_eq_some_iff.1 h).1
 simp[headN]at hk
 match k,h with
 | 0,h=>cases h;rfl
 | 1,h=>cases h;rfl
 | 2,h=>cases h;rfl
 | 3,h=>cases h;rfl
 | 4,h=>cases h;rfl
 | 5,h=>cases h;rfl
 | 6,h=>cases h;rfl
theorem or_4{n:Int}(h:n=0∨n=1∨n=2):binV .or (.int .u8 (IntKind.u8.wrap n)) (.int .u8 4)=some (.int .u8 ((UInt8.ofNat (n.toNat+4)).toNat:Int)):=by
 rcases h with rfl | rfl | rfl <;> rfl
theorem mark_0{n:Int}(h:n=0∨n=1∨n=2):IntKind.u8.wrap n=((UInt8.ofNat n.toNat).toNat:Int):=by
 rcases h with rfl | rfl | rfl <;> rfl
theorem write_ok(x:Batch)(cs:List Value)(G:Nat→Option Obj)(hx:BE G x cs)(hf:Form x):FnO Tryz.prog 180 #[.agg cs.toArray] G [] (fun _ L' r=>OwnB (bytesB x) L' r):=by
 obtain⟨A,c,rfl,⟨hc,hm,hA⟩,i1,i2,i3,i4,i5,i6,i7,i8⟩:=hx
 have hf0:=hf
 obtain⟨⟨f1,f2,f3⟩,⟨f4,f5,f6⟩,⟨f7,f8,f9,f10⟩,f11,f12,f13⟩:=hf
 simp[rng]at f1 f2 f3 f4 f5 f6
 refine F180.fnO (by simp) noRegs_nil (go_of ?_)
 unfold c180 cellH
 have w1:IntKind.i64.wrap (x.last - x.base)=x.last - x.base:=by rw[w64_id] <;> omega
 intros;refine gr 0 0 ?_;refine sJ c180r0.eq_1 ?_
 intros;refine gr 0 0 ?_;refine sJ c180r1.eq_1 ?_
 intros;refine gr 13 29 ?_;refine sJ2 c180r2.eq_1 @w1 ?_
 (intros;try refine go_st ?_)
 refine go_ghost (ghost_nil none 5 1) ?_
 refine go_loop (fun e h=>∃ (k:Nat) (G':Nat→Option Obj) (u:Value) (zc:List Value),(k≤7∧Gle G G'∧Cells UE 1 (headB ((headN x).take k)) zc)∧e 30=.int .i64 k∧e 29=.agg #[.int .i64 x.base,.int .i64 (x.last - x.base),.int .i64 x.src,.int .i64 x.epoch,.int .i64 x.pid,.int .i64 x.gen,.int .i64 x.seq]∧e 3=u∧h.G=G'∧h.D=[]∧[.row u 5 1 (headB ((headN x).take k)).length zc,.reg 1 [.int .i64 x.base,.int .i64 x.last,.int .i64 x.src,.int .i64 x.epoch,.int .i64 x.pid,.int .i64 x.gen,.int .i64 x.seq,.bool x.txn,.int .i64 x.ctl,.slice A x.recs.length c]].Sublist h.L) (fun e h=>7 - iv (e 30)) ?_ ?_
 ·exact⟨0,G,_,[],⟨Nat.zero_le _,.refl _,.nil⟩,eE,eE,eE,rfl,rfl,List.Sublist.refl _⟩
 ·rintro e ⟨G',L,D⟩ ⟨k,G2,u,zc,⟨hk,hgg,hcs⟩,e30,e29,e3,hG,hD,hL⟩
  dsimp only at hG hD hL
  subst hG hD
  refine go_ghost (ghost_sub hL) ?_
  refine go_keep [3,29,30] ?_
  refine sJ3 @e3 @e29 @e30 ?_
  have hhl:=headB_len ((headN x).take k)
  have hh7:((headN x).take k).length≤7:=by simp[headN];omega
  intros;refine gr 0 0 ?_;refine sJ c180r3.eq_1 ?_
  intros;refine gc ?_;refine sI ?_
  refine gb (fun ht=>?_) (fun ht=>?_)
  ·have hkl:k < 7:=by simp at ht;omega
   have hw3:=inc_i k 7 (by omega) (by unfold maxLen;omega)
   obtain⟨n,hn⟩:∃ n,(headN x)[k]?=some n:=⟨(headN x)[k]'(by simp[headN];omega),List.getElem?_eq_getElem _⟩
   have hin:I64 n:=by
    have:=List.mem_of_getElem? hn
    simp[headN]at this
    unfold I64 at *
    omega
   have hix:=head_at hn
   have hsucc:=headB_succ hn
   (repeat first | refine go_skip ?_ | refine go_b ?_)
   intros;refine gr 32 33 ?_;refine sJ2 c180r4.eq_1 @hix ?_
   intros;refine gr 33 36 ?_;refine sJ c180r5.eq_1 ?_
   refine callsH_gx F200.enters (gx_slv_at [] _ (by decide) hcs) ?_
   rintro h' ⟨G3,rfl,hg3,hv3⟩
   refine(PutVar_ok _ n hin _ G3 hv3 (by omega) _ []).mono ?_
   rintro r h' ⟨G4,L',rfl,hg4,ys,hys,rfl⟩
   rw[← hsucc]at hys ⊢
   refine sI ?_
   intros;refine gr 36 37 ?_;refine sJ2 c180r6.eq_1 @hw3 ?_
   (intros;try refine go_st ?_)
   refine go_l ⟨⟨k+1,G4,_,ys,⟨by omega,hgg.trans (hg3.trans hg4),hys⟩,eE,eE,eE,rfl,rfl,List.Sublist.refl _⟩,?_⟩
   refine sI ?_
   omega
  ·have hkl:k=7:=by simp at ht;omega
   subst hkl
   rw[show(headN x).take 7=headN x from rfl]at hcs hhl ⊢
   have hmx:=form_recs hf0
   have hh8:(headN x).length=7:=rfl
   refine go_exit ?_
   refine sI ?_
   intros;refine gr 38 40 ?_;refine sJ c180r7.eq_1 ?_
   have hend:∀ (e:Env) (G6:Nat→Option Obj) (u:Value) (zc:List Value),Cells UE 1 (bodyB x) zc→(bodyB x).length≤5000→e 3=u →
     go none Tryz.prog 91 v180.1 v180.2 (retQ o180 fun v h=>OwnB (bytesB x) h.L v) [Td.s ((SC.reg false c180r20).seq ((SC.reg false c180r21).seq SC.ret))] e ⟨G6,[.row u 5 1 (bodyB x).length zc,.reg 1 [.int .i64 x.base,.int .i64 x.last,.int .i64 x.src,.int .i64 x.epoch,.int .i64 x.pid,.int .i64 x.gen,.int .i64 x.seq,.bool x.txn,.int .i64 x.ctl,.slice A x.recs.length c]],[]⟩:=fun e G6 u zc hzc hbl e3=>by
    refine go_keep [3] ?_
    refine sJ @e3 ?_
    intros;refine gr 83 85 ?_;refine sJ c180r20.eq_1 ?_
    refine callsH_gx F202.enters (gx_slv_at [] _ (by decide) hzc) ?_
    rintro h' ⟨G7,rfl,hg7,hv7⟩
    refine(Seal_ok _ _ G7 hv7 (by omega) _ []).mono ?_
    rintro r h' ⟨G8,L',rfl,hg8,ys,hys,rfl⟩
    refine sI ?_
    intro _
    have hsl:=sealB_len (bodyB x)
    refine go_gx (gx_slv_at [] _ (by decide) hys) ?_
    rintro h' ⟨G9,rfl,hg9,hv9⟩
    obtain⟨As,cs',rfl,-,-,-⟩:=id hv9
    have hwl:IntKind.u64.wrap ((sealB (bodyB x)).length:Int)=((sealB (bodyB x)).length:Int):=by rw[IntKind.wrap_u64];omega
    intros;refine gr 85 91 ?_;refine sJ2 c180r21.eq_1 @hwl ?_
    refine(OPut_ok [] (sealB (bodyB x)).length 4 (by omega) (by omega) _ G9 SB.nil (by simp) _ []).mono ?_
    rintro r h' ⟨G10,L',rfl,hg10,ys2,hys2,rfl⟩
    simp only[List.nil_append]at hys2 ⊢
    refine sI ?_
    refine apX_v (L1:=[]) (.inl rfl) (SB.le hv9 hg10) rfl UE1 (by rw[putN_len];unfold maxLen;omega) fun ys' A' c' hc'=>?_
    have hh:=hys2.app hc'
    refine sI ?_
    (intros;try refine go_st ?_)
    refine go_ret (retQ_o _ rfl (.cons_cons _ (List.nil_sublist _)) (noRegs_row noRegs_nil) ?_)
    rw[← List.length_append]
    exact⟨_,hh,rfl⟩
   have hrest:∀ (e:Env),e 3=u→e 6=.int .u8 ((markB x).toNat:Int) →
     go none Tryz.prog 91 v180.1 v180.2 (retQ o180 fun v h=>OwnB (bytesB x) h.L v) [Td.s ((SC.rgX c180r10).seq (((SC.reg false c180r11).seq (SC.cond (O.t 55) ((SC.reg false c180r12).seq ((SC.reg false c180r13).seq ((SC.reg false c180r14).seq (SC.blk 2 ((SC.reg false c180r15).seq ((SC.cond (O.t 68) SC.skip (SC.exit 2)).seq ((SC.blk 3 ((SC.reg false c180r16).seq ((SC.reg false c180r17).seq (SC.reg false c180r18)))).seq (SC.reg false c180r19)))).loop)))) SC.skip)).seq ((SC.reg false c180r20).seq ((SC.reg false c180r21).seq SC.ret))))] e ⟨G',[.row u 5 1 (headB (headN x)).length zc,.reg 1 [.int .i64 x.base,.int .i64 x.last,.int .i64 x.src,.int .i64 x.epoch,.int .i64 x.pid,.int .i64 x.gen,.int .i64 x.seq,.bool x.txn,.int .i64 x.ctl,.slice A x.recs.length c]],[]⟩:=fun e e3 e6=>by
    refine go_keep [3,6] ?_
    refine sJ2 @e3 @e6 ?_
    (intros;try refine go_st ?_);refine go_x _ (.cons _ (List.Sublist.refl _)) (by decide) ?_;refine sJ c180r10.eq_1 ?_
    intro bk hbk
    refine⟨grow_L (fun _ _ h=>h) (.cons _ (.cons _ (List.Sublist.refl _))),?_⟩
    refine sI ?_
    refine app8 (L1:=[]) (L2:=[_]) (x:=markB x) rfl rfl hcs (by omega) fun A' c' zc' hzc=>?_
    refine sI ?_
    refine⟨grow_L (fun _ _ h=>h) (.cons _ (.cons _ (List.Sublist.refl _))),?_⟩
    refine sI ?_
    refine callsH_gx F200.enters (gx_slv_at [_] _ (by decide) hzc) ?_
    rintro h' ⟨G4,rfl,hg4,hv4⟩
    refine(PutVar_ok _ x.recs.length (by unfold I64;omega) _ G4 hv4 (by simp;omega) _ []).mono ?_
    rintro r h' ⟨G5,L',rfl,hg5,ys5,hys5,rfl⟩
    refine⟨grow_L (hg4.trans hg5) (.cons _ (.cons _ (List.Sublist.refl _))),?_⟩
    refine sI ?_
    have hpl:=pvB_len x.recs.length
    (repeat first | (with_reducible intro _) | refine go_seq ?_)
    refine go_ghost (ghost_sub (L':=[.row r 5 1 (headB (headN x)++[markB x]++pvB x.recs.length).length ys5,.reg 1 [.int .i64 x.base,.int .i64 x.last,.int .i64 x.src,.int .i64 x.epoch,.int .i64 x.pid,.int .i64 x.gen,.int .i64 x.seq,.bool x.txn,.int .i64 x.ctl,.slice A x.recs.length c]]) ?hsub) ?_
    case hsub=>exact .cons_cons _ (.cons _ (List.Sublist.refl _))
    intros;refine gr 53 55 ?_;refine sJ c180r11.eq_1 ?_
    intros;refine gc ?_;refine sI ?_
    refine gb (fun k1=>?_) (fun k1=>?_)
    ·have hpos:0 < x.recs.length:=by simpa using k1
     obtain⟨r0,h0⟩:∃ r0,x.recs[0]?=some r0:=⟨x.recs[0],List.getElem?_eq_getElem hpos⟩
     have hg5:=hgg.trans (hg4.trans hg5)
     have hA5:=hA.le hg5 (E':=RR) fun _ _ h=>h
     intros;refine gr 57 61 ?_;refine sJ c180r12.eq_1 ?_
     refine hA5.x_lf h0 rfl rfl (fun cs h=>by rw[h.1];rfl) fun a ha=>?_
     refine sI ?_
     have hck0:=hmx.1 r0 (List.mem_of_getElem? h0)
     obtain⟨⟨-,q0⟩,-,-⟩:=chk_small hck0
     have q0':=q0
     simp[inO]at q0'
     have hst:I64 r0.stamp:=by unfold I64;omega
     intros;refine gr 61 64 ?_;refine sJ c180r13.eq_1 ?_
     refine callsH_gx F200.enters (gx_slv_at [] _ (by decide) hys5) ?_
     rintro h' ⟨G6,rfl,hg6,hv6⟩
     refine(PutVar_ok _ r0.stamp hst _ G6 hv6 (by simp;omega) _ []).mono ?_
     rintro r h' ⟨G7,L',rfl,hg7,ys7,hys7,rfl⟩
     have hp7:=pvB_len r0.stamp
     refine sI ?_
     have hA7:=hA5.le (hg6.trans hg7) (E':=RR) fun _ _ h=>h
     have hst0:tailB x=pvB r0.stamp++recsB x.base r0.stamp x.recs:=by
      match hr:x.recs,h0 with
      | r :: rs,h0=>simp[hr]at h0;subst h0;rw[tailB,hr]
     generalize hP:headB (headN x)++[markB x]++pvB x.recs.length++pvB r0.stamp=P at hys7 ⊢
     have hPl:P.length≤100:=by rw[← hP];simp;omega
     intros;refine gr 0 0 ?_;refine sJ c180r14.eq_1 ?_
     (intros;try refine go_st ?_)
     refine go_loop (fun e h=>∃ (k:Nat) (G':Nat→Option Obj) (u:Value) (zc:List Value),(k≤x.recs.length∧Gle G7 G'∧Cells UE 1 (P++recsB x.base r0.stamp (x.recs.take k)) zc∧(recsB x.base r0.stamp (x.recs.take k)).length≤169 * k)∧e 67=.int .i64 k∧e 66=.int .i64 x.recs.length∧e 65=.slice A x.recs.length c∧e 7=.int .i64 r0.stamp∧e 3=u∧h.G=G'∧h.D=[]∧[.row u 5 1 (P++recsB x.base r0.stamp (x.recs.take k)).length zc,.reg 1 [.int .i64 x.base,.int .i64 x.last,.int .i64 x.src,.int .i64 x.epoch,.int .i64 x.pid,.int .i64 x.gen,.int .i64 x.seq,.bool x.txn,.int .i64 x.ctl,.slice A x.recs.length c]].Sublist h.L) (fun e h=>x.recs.length - iv (e 67)) ?_ ?_
     ·exact⟨0,G7,r,ys7,⟨Nat.zero_le _,.refl _,by simpa [recsB]using hys7,by simp[recsB]⟩,eE,eE,eE,eE,eE,rfl,rfl,by simp[recsB]⟩
     ·rintro e ⟨G',L,D⟩ ⟨k,G2,u,zc,⟨hk,hgg,hcs,hrl⟩,e67,e66,e65,e7,e3,hG,hD,hL⟩
      dsimp only at hG hD hL
      subst hG hD
      refine go_ghost (ghost_sub hL) ?_
      refine go_keep [3,7,65,66,67] ?_
      refine sJ5 @e3 @e7 @e65 @e66 @e67 ?_
      intros;refine gr 0 0 ?_;refine sJ c180r15.eq_1 ?_
      intros;refine gc ?_;refine sI ?_
      refine gb (fun ht=>?_) (fun ht=>?_)
      ·have hkl:k < x.recs.length:=by simpa using ht
       have hw3:=inc_i k c (by omega) hm
       obtain⟨r,hr⟩:∃ r,x.recs[k]?=some r:=⟨x.recs[k],List.getElem?_eq_getElem (by omega)⟩
       have hsucc:=recsB_succ (base:=x.base) (stamp:=r0.stamp) hr
       have hckr:=hmx.1 r (List.mem_of_getElem? hr)
       have hcs':=chk_small hckr
       have hpl:=prB_len (base:=x.base) (stamp:=r0.stamp) hcs'.2.1 hcs'.2.2
       have hput:putR r x.base r0.stamp=(prB r x.base r0.stamp,0):=by
        rw[putR,if_neg (by simp[hckr]),if_neg (by simp[inO,f1,q0'])]
       have hAk:=hA7.le hgg (E':=RR) fun _ _ h=>h
       intros;refine gN ?_
       intros;refine gr 69 71 ?_;refine sJ c180r16.eq_1 ?_
       refine hAk.x_ld hr rfl rfl ?_
       rintro a1 ha1 cs ⟨rfl,-⟩
       have hPut:=Put_ok r x.base r0.stamp
       unfold cellR at hPut ⊢
       refine sI ?_
       intros;refine gr 71 79 ?_;refine sJ c180r17.eq_1 ?_
       refine(hPut G' _ []).mono ?_
       rintro v h' ⟨G8,L',rfl,hg8,w,rfl,ys8,hys8,rfl⟩
       rw[hput]at hys8 ⊢
       refine sI ?_
       intro _
       refine go_gx (gx_slv_at [] _ (by decide) hys8) ?_
       rintro h' ⟨G9,rfl,hg9,hv9⟩
       intros;refine gr 79 82 ?_;refine sJ c180r18.eq_1 ?_
       refine apX_v (L1:=[_]) (.inl rfl) hv9 rfl UE1 (by simp;unfold maxLen;omega) fun ys' A' c' hc'=>?_
       have hh:=hcs.app hc'
       rw[List.append_assoc,← hsucc]at hh
       rw[← List.length_append,List.append_assoc,← hsucc]
       refine sI ?_
       intros;refine gr 82 83 ?_;refine sJ2 c180r19.eq_1 @hw3 ?_
       (intros;try refine go_st ?_)
       refine go_l ⟨⟨k+1,G9,_,_,⟨by omega,hgg.trans (hg8.trans hg9),hh,by rw[hsucc,List.length_append];omega⟩,eE,eE,eE,eE,eE,rfl,rfl,.cons _ (List.Sublist.refl _)⟩,?_⟩
       refine sI ?_
       omega
      ·have hkl:k=x.recs.length:=by simp at ht;omega
       subst hkl
       rw[List.take_length]at hcs hrl
       have hbody:bodyB x=P++recsB x.base r0.stamp x.recs:=by rw[bodyB,hst0,← hP];simp
       refine go_exit ?_
       refine sI ?_
       rw[List.take_length,← hbody]
       rw[← hbody]at hcs
       refine hend _ G' _ zc hcs (by rw[hbody];simp;omega) ?_
       (refine sI ?_;try with_reducible exact True.intro)
    ·have hnil:x.recs=[]:=by have:=of_decide_eq_false k1;exact List.eq_nil_of_length_eq_zero (by omega)
     have htl:tailB x=[]:=by rw[tailB,hnil]
     have hbody:bodyB x=headB (headN x)++[markB x]++pvB x.recs.length:=by rw[bodyB,htl,List.append_nil]
     rw[← hbody]at hys5 ⊢
     (repeat first | refine go_skip ?_ | refine go_b ?_)
     refine hend _ G5 _ ys5 hys5 (by rw[hbody];simp;omega) ?_
     (refine sI ?_;try with_reducible exact True.intro)
   have hctl:x.ctl=0∨x.ctl=1∨x.ctl=2:=by
    rcases f13 with h | h
    ·exact .inl h.1
    ·exact .inr h.1
   intros;refine gr 0 0 ?_;refine sJ c180r8.eq_1 ?_
   intros;refine gc ?_;refine sI ?_
   refine gb (fun k1=>?_) (fun k1=>?_)
   ·have hm4:=or_4 hctl
    intros;refine gr 42 44 ?_;refine sJ2 c180r9.eq_1 @hm4 ?_
    intro _
    (repeat first | refine go_skip ?_ | refine go_b ?_)
    refine hrest _ ?_ ?_ <;> (refine sI ?_;try with_reducible exact True.intro)
    rw[markB,if_pos k1]
   ·(repeat first | refine go_skip ?_ | refine go_b ?_)
    refine hrest _ ?_ ?_ <;> (refine sI ?_;try with_reducible exact True.intro)
    rw[markB,if_neg (by rw[k1];simp),mark_0 hctl]
    rfl
theorem cells_i:∀ (l:List Int),(∀ x∈l,I64 x)→Cells IE 1 l (l.map fun n=>.int .i64 n)
 | [],_=>.nil
 | n :: l,h=>.cons (cs:=[.int .i64 n]) ⟨rfl,h n (.head _)⟩ rfl (cells_i l fun x hx=>h x (.tail _ hx))
theorem F154:Fun Tryz.prog 154 14 v154 c154 o154:=Fun.mkA Tryz.func154 Tryz.ntmps154
theorem F118:Fun Tryz.prog 118 11 v118 c118 o118:=Fun.mkA Tryz.func118 Tryz.ntmps118
theorem F120:Fun Tryz.prog 120 12 v120 c120 o120:=Fun.mkA Tryz.func120 Tryz.ntmps120
def errB(b:Batch):Int:=if Form b then(if (bytesB b).length≤2048 then 0 else 2)else 1
def putB(b:Batch):List UInt8 × Int:=if errB b=0 then(bytesB b,0)else([],errB b)
def sizeB(b:Batch):Nat:=(putB b).1.length
theorem errB_n{b:Batch}(h:¬ Form b):errB b=1:=if_neg h
theorem errB_2{b:Batch}(h:Form b)(h2:¬ (bytesB b).length≤2048):errB b=2:=by rw[errB,if_pos h,if_neg h2]
theorem errB_0{b:Batch}(h:Form b)(h2:(bytesB b).length≤2048):errB b=0:=by rw[errB,if_pos h,if_pos h2]
theorem putB_0{b:Batch}(h:errB b=0):putB b=(bytesB b,0):=if_pos h
theorem putB_n{b:Batch}(h:¬ errB b=0):putB b=([],errB b):=if_neg h
theorem errB_ok{b:Batch}(h:errB b=0):Form b∧(bytesB b).length≤2048:=by
 unfold errB at h
 split at h
 ·rename_i h1
  split at h
  ·rename_i h2;exact⟨h1,h2⟩
  ·cases h
 ·cases h
theorem bodyB_len{b:Batch}(hf:Form b):(bodyB b).length≤4900:=by
 obtain⟨h1,h2⟩:=form_recs hf
 have a1:=headB_len (headN b)
 have a2:(headN b).length=7:=rfl
 have a3:=pvB_len b.recs.length
 have a4:(tailB b).length≤10+169 * b.recs.length:=by
  cases hr:b.recs with
  | nil=>simp[tailB,hr]
  | cons r rs =>
   have a5:=pvB_len r.stamp
   have a6:∀ (l:List Rec) (st:Int),(∀ r∈l,chkR r=0)→(recsB b.base st l).length≤169 * l.length:=fun l=>by
    induction l with
    | nil=>simp[recsB]
    | cons q l ih =>
     intro st h
     have e1:=ih st fun r hr=>h r (.tail _ hr)
     have e2:=chk_small (h q (.head _))
     have e3:=prB_len (base:=b.base) (stamp:=st) e2.2.1 e2.2.2
     simp[recsB]at e1 ⊢
     omega
   have a7:=a6 (r :: rs) r.stamp (by rw[← hr];exact h1)
   simp only[tailB,hr,List.length_append]
   omega
 simp only[bodyB,List.length_append,List.length_cons,List.length_nil]
 omega
theorem bytesB_len(b:Batch):(bytesB b).length=(bodyB b).length+8:=by
 simp only[bytesB,List.length_append,putN_len,sealB_len]
 omega
theorem BPut_ok(x:Batch)(cs:List Value)(G:Nat→Option Obj)(hx:BE G x cs):FnO Tryz.prog 154 #[.agg cs.toArray] G [] (fun _ L' r=>OwnE (putB x) L' r):=by
 have h1:=formed_ok x cs G hx
 have h2:=write_ok x cs G hx
 obtain⟨A,c,rfl,-⟩:=hx
 refine F154.fnO (by simp) noRegs_nil (go_of ?_)
 unfold c154
 unfold cellH at h1 h2 ⊢
 intros;refine gr 0 0 ?_;refine sJ c154r0.eq_1 ?_
 intros;refine gr 5 7 ?_;refine sJ c154r1.eq_1 ?_
 refine(h1 _ _).mono ?_;rintro _ _ ⟨rfl,rfl⟩;refine sI ?_
 intros;refine gc ?_;refine sI ?_
 refine gb (fun k1=>?_) (fun k1=>?_)
 ·have k1:¬ Form x:=by simpa using k1
  intros;refine gr 0 0 ?_;refine sJ c154r2.eq_1 ?_
  (intros;try refine go_st ?_)
  refine go_ghost (ghost_nil none 5 1) ?_
  refine go_ret (retQ_o _ rfl (.cons_cons _ (List.nil_sublist _)) (noRegs_row noRegs_nil) ?_)
  have he:=errB_n k1
  rw[putB_n (by rw[he];decide),he]
  exact⟨_,rfl,[],.nil,rfl⟩
 have k1:Form x:=by simpa using k1
 have hbl:=bodyB_len k1
 have hwl:=bytesB_len x
 intros;refine gN ?_
 intros;refine gr 8 10 ?_;refine sJ c154r3.eq_1 ?_
 refine(h2 k1 _ []).mono ?_
 rintro r h' ⟨G1,L',rfl,hg1,ys,hys,rfl⟩
 refine sI ?_
 intro _
 intros;try refine go_seq ?_
 refine go_gx (gx_knowS (.head _)) ?_
 rintro h' ⟨rfl,A2,c2,rfl,hc2,hm2⟩
 intros;refine gr 10 12 ?_;refine sJ c154r4.eq_1 ?_
 intros;refine gc ?_;refine sI ?_
 refine gb (fun k2=>?_) (fun k2=>?_)
 ·have k2:¬ (bytesB x).length≤2048:=by have:=of_decide_eq_true k2;omega
  intros;refine gr 0 0 ?_;refine sJ c154r5.eq_1 ?_
  (intros;try refine go_st ?_)
  refine go_ghost (ghost_nil none 5 1) ?_
  refine go_ret (retQ_o _ rfl (.cons_cons _ (List.nil_sublist _)) (noRegs_row noRegs_nil) ?_)
  have he:=errB_2 k1 k2
  rw[putB_n (by rw[he];decide),he]
  exact⟨_,rfl,[],.nil,rfl⟩
 ·have k2:(bytesB x).length≤2048:=by have:=of_decide_eq_false k2;omega
  intros;refine gN ?_
  intros;refine gr 13 14 ?_;refine sJ c154r6.eq_1 ?_
  (intros;try refine go_st ?_)
  refine go_ret (retQ_o _ rfl (.cons_cons _ (List.nil_sublist _)) (noRegs_row noRegs_nil) ?_)
  rw[putB_0 (errB_0 k1 k2)]
  exact⟨_,rfl,ys,hys,rfl⟩
theorem putB_e(x:Batch):(putB x).2=errB x:=by
 unfold putB
 split
 ·rename_i h;exact h.symm
 ·rfl
theorem BCheck_ok(x:Batch)(cs:List Value)(G:Nat→Option Obj)(hx:BE G x cs):FnS Tryz.prog 118 #[.agg cs.toArray] G (.int .i64 (errB x)):=by
 have h1:=BPut_ok x cs G hx
 obtain⟨A,c,rfl,-⟩:=hx
 refine F118.fnS (by simp) (go_of ?_)
 unfold c118
 unfold cellH at h1 ⊢
 intros;refine gr 0 0 ?_;refine sJ c118r0.eq_1 ?_
 intros;refine gr 5 10 ?_;refine sJ c118r1.eq_1 ?_
 refine(h1 _ []).mono ?_
 rintro r h' ⟨G1,L',rfl,hg1,u,rfl,ys,hys,rfl⟩
 refine sI ?_
 intros;refine gr 10 11 ?_;refine sJ c118r2.eq_1 ?_
 intros;refine rV ?_;simp only[push_cast,Nat.reduceBEq]
 rw[putB_e]
theorem Size_ok(x:Batch)(cs:List Value)(G:Nat→Option Obj)(hx:BE G x cs):FnS Tryz.prog 120 #[.agg cs.toArray] G (.int .i64 (sizeB x)):=by
 have h1:=BPut_ok x cs G hx
 obtain⟨A,c,rfl,-⟩:=hx
 refine F120.fnS (by simp) (go_of ?_)
 unfold c120
 unfold cellH at h1 ⊢
 intros;refine gr 0 0 ?_;refine sJ c120r0.eq_1 ?_
 intros;refine gr 4 10 ?_;refine sJ c120r1.eq_1 ?_
 refine(h1 _ []).mono ?_
 rintro r h' ⟨G1,L',rfl,hg1,u,rfl,ys,hys,rfl⟩
 refine sI ?_
 intro _
 intros;try refine go_seq ?_
 refine go_gx (gx_knowS (.head _)) ?_
 rintro h' ⟨rfl,A2,c2,rfl,hc2,hm2⟩
 intros;refine gr 10 12 ?_;refine sJ c120r2.eq_1 ?_
 intros;refine rV ?_;simp only[push_cast,Nat.reduceBEq]
 rfl
theorem F191:Fun Tryz.prog 191 26 v191 c191 o191:=Fun.mkA Tryz.func191 Tryz.ntmps191
theorem F133:Fun Tryz.prog 133 26 v133 c133 o133:=Fun.mkA Tryz.func133 Tryz.ntmps133
theorem F192:Fun Tryz.prog 192 33 v192 c192 o192:=Fun.mkA Tryz.func192 Tryz.ntmps192
theorem F169:Fun Tryz.prog 169 19 v169 c169 o169:=Fun.mkA Tryz.func169 Tryz.ntmps169
theorem F79:Fun Tryz.prog 79 73 v79 c79 o79:=Fun.mkA Tryz.func79 Tryz.ntmps79
theorem beq_dec{α:Type}[BEq α][LawfulBEq α][DecidableEq α](a b:α):(a == b)=decide (a=b):=by by_cases h:a=b <;> simp[h]
theorem strAt_b{G:Nat→Option Obj}{v:Value}{l:List UInt8}(hl:SB G v l){h:H}(hG:h.G=G):StrAt h v ⟨l.toArray⟩:=by
 obtain⟨G',L,D⟩:=h
 dsimp only at hG
 subst hG
 obtain⟨A,c,rfl,hc,hm,hA⟩:=hl
 cases A with
 | none =>
  match l,hA with
  | [],_=>exact .inl ⟨c,rfl,rfl⟩
  | x :: xs,hA=>obtain⟨a,_,ha,_⟩:=hA 0 x rfl;cases ha
 | some a =>
  refine .inr ⟨a,c,rfl,fun j u hu=>?_⟩
  rw[byteCells_b]at hu
  simp[cellB]at hu
  obtain⟨x,hx,rfl⟩:=hu
  obtain⟨a',cs,ha,h1,h2,h3⟩:=hA j x hx
  cases ha
  have:=h3 0 (.int .u8 (x.toNat:Int)) (by rw[h2];rfl)
  simp at this
  exact .g this
instance decRec (a b:Rec):Decidable (a=b):=decidable_of_iff (a.off=b.off∧a.key=b.key∧a.val=b.val∧a.dead=b.dead∧a.stamp=b.stamp) (by cases a;cases b;simp)
instance decBatch (a b:Batch):Decidable (a=b):=decidable_of_iff (a.base=b.base∧a.last=b.last∧a.src=b.src∧a.epoch=b.epoch∧a.pid=b.pid∧a.gen=b.gen∧a.seq=b.seq∧a.txn=b.txn∧a.ctl=b.ctl∧a.recs=b.recs) (by cases a;cases b;simp)
theorem toL_eq(a b:ByteArray):(a.toList == b.toList)=decide (a=b):=by
 rw[beq_dec,ByteArray.toList_eq,ByteArray.toList_eq]
 congr 1
 apply propext
 constructor
 ·intro h
  cases a;cases b
  simp at h
  rw[h]
 ·intro h;rw[h]
theorem eqCR(a b:Rec):eqC [0,2,2,1,0] (cellR a) (cellR b)=some (decide (a=b)):=by
 have h:(a=b)↔(a.off=b.off∧a.key=b.key∧a.val=b.val∧a.dead=b.dead∧a.stamp=b.stamp):=by cases a;cases b;simp
 simp only[cellR,eqC,if_true,Option.map_some,toL_eq,h]
 rw[beq_dec a.dead b.dead]
 simp only[Bool.and_true,Bool.decide_and]
theorem same_take{α:Type}[DecidableEq α]{a b:List α}{k:Nat}(hk:k=a.length)(hl:a.length=b.length)(h:a.take k=b.take k):a=b:=by
 subst hk
 rw[List.take_length,hl,List.take_length]at h
 exact h
theorem take_succ_eq{α:Type}{a b:List α}{k:Nat}{x y:α}(h:a.take k=b.take k)(hx:a[k]?=some x)(hy:b[k]?=some y)(hxy:x=y):a.take (k+1)=b.take (k+1):=by
 have h1:=List.getElem?_eq_some_iff.1 hx
 have h2:=List.getElem?_eq_some_iff.1 hy
 rw[List.take_succ_eq_append_getElem h1.1,List.take_succ_eq_append_getElem h2.1,h,h1.2,h2.2,hxy]
theorem Equal_ok(a b:List Rec)(v u:Value)(G:Nat→Option Obj)(ha:SlV G RR 5 v a)(hb:SlV G RR 5 u b):FnS Tryz.prog 191 #[v,u] G (.bool (decide (a=b))):=by
 obtain⟨A,c,rfl,hc,hm,hA⟩:=ha
 obtain⟨B,d,rfl,hd,hn,hB⟩:=hb
 refine F191.fnS (by simp) (go_of ?_)
 unfold c191
 intros;refine gr 0 0 ?_;refine sJ c191r0.eq_1 ?_
 intros;refine gr 6 10 ?_;refine sJ c191r1.eq_1 ?_
 intros;refine gc ?_;refine sI ?_
 refine gb (fun h1=>?_) (fun h1=>?_)
 ·have h1:=of_decide_eq_true h1
  intros;refine gr 0 0 ?_;refine sJ c191r2.eq_1 ?_
  intros;refine rV ?_;simp only[push_cast,Nat.reduceBEq]
  rw[decide_eq_false fun h=>h1 (by rw[h])]
 ·have h1:a.length=b.length:=by have:=of_decide_eq_false h1;omega
  intros;refine gN ?_
  intros;refine gr 11 12 ?_;refine sJ c191r3.eq_1 ?_
  (intros;try refine go_st ?_)
  refine go_loop (fun e h=>∃ k:Nat,(k≤a.length∧a.take k=b.take k)∧e 13=.int .i64 k∧e 12=.int .i64 a.length∧e 0=.slice A a.length c∧e 1=.slice B b.length d∧h=⟨G,[],[]⟩) (fun e h=>a.length - iv (e 13)) ?_ ?_
  ·exact⟨0,⟨Nat.zero_le _,rfl⟩,eE,eE,eE,eE,rfl⟩
  ·rintro e h ⟨k,⟨hk,htk⟩,e13,e12,e0,e1,rfl⟩
   refine go_keep [0,1,12,13] ?_
   refine sJ4 @e0 @e1 @e12 @e13 ?_
   intros;refine gr 0 0 ?_;refine sJ c191r4.eq_1 ?_
   intros;refine gc ?_;refine sI ?_
   refine gb (fun h2=>?_) (fun h2=>?_)
   ·have hkl:k < a.length:=by simpa using h2
    have hw3:=inc_i k c (by omega) hm
    obtain⟨x,hx⟩:∃ x,a[k]?=some x:=⟨a[k],List.getElem?_eq_getElem (by omega)⟩
    obtain⟨y,hy⟩:∃ y,b[k]?=some y:=⟨b[k],List.getElem?_eq_getElem (by omega)⟩
    intros;refine gN ?_
    intros;refine gr 15 16 ?_;refine sJ c191r5.eq_1 ?_
    (intros;try refine go_st ?_);refine go_q 16 24 (by decide) ?_;refine sJ c191r6.eq_1 ?_
    refine hA.y_ld hx rfl rfl ?_
    rintro a1 ha1 cs ⟨rfl,-⟩
    refine sI ?_
    refine hB.y_ld hy rfl rfl ?_
    rintro a2 ha2 cs ⟨rfl,-⟩
    refine sJ @eqCR ?_
    intros;refine gc ?_;refine sI ?_
    refine gb (fun h3=>?_) (fun h3=>?_)
    ·have h3:¬ x=y:=by simpa using h3
     intros;refine gr 0 0 ?_;refine sJ c191r7.eq_1 ?_
     intros;refine rV ?_;simp only[push_cast,Nat.reduceBEq]
     rw[decide_eq_false fun h=>h3 (by subst h;rw[hx]at hy;cases hy;rfl)]
    ·have h3:x=y:=by simpa using h3
     intros;refine gN ?_
     intros;refine gr 25 26 ?_;refine sJ2 c191r8.eq_1 @hw3 ?_
     (intros;try refine go_st ?_)
     refine go_l ⟨⟨k+1,⟨by omega,take_succ_eq htk hx hy h3⟩,eE,eE,eE,eE,rfl⟩,?_⟩
     refine sI ?_
     omega
   ·have hkl:k=a.length:=by simp at h2;omega
    refine go_exit ?_
    refine sI ?_
    intros;refine gr 0 0 ?_;refine sJ c191r9.eq_1 ?_
    intros;refine rV ?_;simp only[push_cast,Nat.reduceBEq]
    rw[decide_eq_true (same_take hkl h1 htk)]
theorem SameRecs_ok(a b:List Rec)(v u:Value)(G:Nat→Option Obj)(ha:SlV G RR 5 v a)(hb:SlV G RR 5 u b):FnS Tryz.prog 133 #[v,u] G (.bool (decide (a=b))):=by
 obtain⟨A,c,rfl,hc,hm,hA⟩:=ha
 obtain⟨B,d,rfl,hd,hn,hB⟩:=hb
 refine F133.fnS (by simp) (go_of ?_)
 unfold c133
 intros;refine gr 0 0 ?_;refine sJ c133r0.eq_1 ?_
 intros;refine gr 6 10 ?_;refine sJ c133r1.eq_1 ?_
 intros;refine gc ?_;refine sI ?_
 refine gb (fun h1=>?_) (fun h1=>?_)
 ·have h1:=of_decide_eq_true h1
  intros;refine gr 0 0 ?_;refine sJ c133r2.eq_1 ?_
  intros;refine rV ?_;simp only[push_cast,Nat.reduceBEq]
  rw[decide_eq_false fun h=>h1 (by rw[h])]
 ·have h1:a.length=b.length:=by have:=of_decide_eq_false h1;omega
  intros;refine gN ?_
  intros;refine gr 11 12 ?_;refine sJ c133r3.eq_1 ?_
  (intros;try refine go_st ?_)
  refine go_loop (fun e h=>∃ k:Nat,(k≤a.length∧a.take k=b.take k)∧e 13=.int .i64 k∧e 12=.int .i64 a.length∧e 0=.slice A a.length c∧e 1=.slice B b.length d∧h=⟨G,[],[]⟩) (fun e h=>a.length - iv (e 13)) ?_ ?_
  ·exact⟨0,⟨Nat.zero_le _,rfl⟩,eE,eE,eE,eE,rfl⟩
  ·rintro e h ⟨k,⟨hk,htk⟩,e13,e12,e0,e1,rfl⟩
   refine go_keep [0,1,12,13] ?_
   refine sJ4 @e0 @e1 @e12 @e13 ?_
   intros;refine gr 0 0 ?_;refine sJ c133r4.eq_1 ?_
   intros;refine gc ?_;refine sI ?_
   refine gb (fun h2=>?_) (fun h2=>?_)
   ·have hkl:k < a.length:=by simpa using h2
    have hw3:=inc_i k c (by omega) hm
    obtain⟨x,hx⟩:∃ x,a[k]?=some x:=⟨a[k],List.getElem?_eq_getElem (by omega)⟩
    obtain⟨y,hy⟩:∃ y,b[k]?=some y:=⟨b[k],List.getElem?_eq_getElem (by omega)⟩
    intros;refine gN ?_
    intros;refine gr 15 16 ?_;refine sJ c133r5.eq_1 ?_
    (intros;try refine go_st ?_);refine go_q 16 24 (by decide) ?_;refine sJ c133r6.eq_1 ?_
    refine hA.y_ld hx rfl rfl ?_
    rintro a1 ha1 cs ⟨rfl,-⟩
    refine sI ?_
    refine hB.y_ld hy rfl rfl ?_
    rintro a2 ha2 cs ⟨rfl,-⟩
    refine sJ @eqCR ?_
    intros;refine gc ?_;refine sI ?_
    refine gb (fun h3=>?_) (fun h3=>?_)
    ·have h3:¬ x=y:=by simpa using h3
     intros;refine gr 0 0 ?_;refine sJ c133r7.eq_1 ?_
     intros;refine rV ?_;simp only[push_cast,Nat.reduceBEq]
     rw[decide_eq_false fun h=>h3 (by subst h;rw[hx]at hy;cases hy;rfl)]
    ·have h3:x=y:=by simpa using h3
     intros;refine gN ?_
     intros;refine gr 25 26 ?_;refine sJ2 c133r8.eq_1 @hw3 ?_
     (intros;try refine go_st ?_)
     refine go_l ⟨⟨k+1,⟨by omega,take_succ_eq htk hx hy h3⟩,eE,eE,eE,eE,rfl⟩,?_⟩
     refine sI ?_
     omega
   ·have hkl:k=a.length:=by simp at h2;omega
    refine go_exit ?_
    refine sI ?_
    intros;refine gr 0 0 ?_;refine sJ c133r9.eq_1 ?_
    intros;refine rV ?_;simp only[push_cast,Nat.reduceBEq]
    rw[decide_eq_true (same_take hkl h1 htk)]
theorem BE.recs{G:Nat→Option Obj}{x:Batch}{cs:List Value}(h:BE G x cs):∃ A c,cs=cellH x (.slice A x.recs.length c)∧SlV G RR 5 (.slice A x.recs.length c) x.recs:=by
 obtain⟨A,c,h1,⟨h2,h3,h4⟩,-⟩:=h
 exact⟨A,c,h1,A,c,rfl,h2,h3,h4⟩
theorem sameB(x y:Batch):decide (x=y)=(decide (x.base=y.base) && decide (x.last=y.last) && decide (x.src=y.src) && decide (x.epoch=y.epoch) && decide (x.pid=y.pid) && decide (x.gen=y.gen) && decide (x.seq=y.seq) && (x.txn == y.txn) && decide (x.ctl=y.ctl) && decide (x.recs=y.recs)):=by
 have h:(x=y)↔(x.base=y.base∧x.last=y.last∧x.src=y.src∧x.epoch=y.epoch∧x.pid=y.pid∧x.gen=y.gen∧x.seq=y.seq∧x.txn=y.txn∧x.ctl=y.ctl∧x.recs=y.recs):=by cases x;cases y;simp
 simp only[h,Bool.decide_and,beq_dec,Bool.and_assoc]
theorem RSame_ok(x y:Batch)(cs ds:List Value)(G:Nat→Option Obj)(hx:BE G x cs)(hy:BE G y ds):FnS Tryz.prog 79 #[.agg cs.toArray,.agg ds.toArray] G (.bool (decide (x=y))):=by
 obtain⟨A,c,rfl,hA⟩:=hx.recs
 obtain⟨B,d,rfl,hB⟩:=hy.recs
 refine F79.fnS (by simp) (go_of ?_)
 unfold c79 cellH
 intros;refine gr 0 0 ?_;refine sJ c79r0.eq_1 ?_
 intros;refine gr 6 73 ?_;refine sJ c79r1.eq_1 ?_
 refine gd (fun k1=>?_) (fun k1=>?_)
 rotate_left
 ·
  refine sI ?_
  intros;refine rV ?_;simp only[push_cast,Nat.reduceBEq]
  rw[decide_eq_false fun h=>by subst h;simp at k1]
 refine sI ?_
 refine gd (fun k2=>?_) (fun k2=>?_)
 rotate_left
 ·
  refine sI ?_
  intros;refine rV ?_;simp only[push_cast,Nat.reduceBEq]
  rw[decide_eq_false fun h=>by subst h;simp at k2]
 refine sI ?_
 refine gd (fun k3=>?_) (fun k3=>?_)
 rotate_left
 ·
  refine sI ?_
  intros;refine rV ?_;simp only[push_cast,Nat.reduceBEq]
  rw[decide_eq_false fun h=>by subst h;simp at k3]
 refine sI ?_
 refine gd (fun k4=>?_) (fun k4=>?_)
 rotate_left
 ·
  refine sI ?_
  intros;refine rV ?_;simp only[push_cast,Nat.reduceBEq]
  rw[decide_eq_false fun h=>by subst h;simp at k4]
 refine sI ?_
 refine gd (fun k5=>?_) (fun k5=>?_)
 rotate_left
 ·
  refine sI ?_
  intros;refine rV ?_;simp only[push_cast,Nat.reduceBEq]
  rw[decide_eq_false fun h=>by subst h;simp at k5]
 refine sI ?_
 refine gd (fun k6=>?_) (fun k6=>?_)
 rotate_left
 ·
  refine sI ?_
  intros;refine rV ?_;simp only[push_cast,Nat.reduceBEq]
  rw[decide_eq_false fun h=>by subst h;simp at k6]
 refine sI ?_
 refine gd (fun k7=>?_) (fun k7=>?_)
 rotate_left
 ·
  refine sI ?_
  intros;refine rV ?_;simp only[push_cast,Nat.reduceBEq]
  rw[decide_eq_false fun h=>by subst h;simp at k7]
 refine sI ?_
 refine gd (fun k8=>?_) (fun k8=>?_)
 rotate_left
 ·
  refine sI ?_
  intros;refine rV ?_;simp only[push_cast,Nat.reduceBEq]
  rw[decide_eq_false fun h=>by subst h;simp at k8]
 refine sI ?_
 refine gd (fun k9=>?_) (fun k9=>?_)
 rotate_left
 ·
  refine sI ?_
  intros;refine rV ?_;simp only[push_cast,Nat.reduceBEq]
  rw[decide_eq_false fun h=>by subst h;simp at k9]
 refine sI ?_
 refine(SameRecs_ok _ _ _ _ _ hA hB _ _).mono ?_;rintro _ _ ⟨rfl,rfl⟩;refine sI ?_
 intros;refine rV ?_;simp only[push_cast,Nat.reduceBEq]
 rw[sameB,k1,k2,k3,k4,k5,k6,k7,k8,k9]
 rfl
theorem head_ok(x:Batch)(cs:List Value)(G:Nat→Option Obj)(hx:BE G x cs):
  FnS Tryz.prog 192 #[.agg cs.toArray] G (.agg #[.int .i64 x.base,.int .i64 x.last,.int .i64 x.src,.int .i64 x.epoch,.int .i64 x.pid,.int .i64 x.gen,.int .i64 x.seq,.int .i64 x.ctl,.int .i64 (if x.txn=true then 1 else 0)]):=by
 obtain⟨A,c,rfl,hA⟩:=hx.recs
 refine F192.fnS (by simp) (go_of ?_)
 unfold c192 cellH
 intros;refine gr 0 0 ?_;refine sJ c192r0.eq_1 ?_
 intros;refine gr 5 7 ?_;refine sJ c192r1.eq_1 ?_
 intros;try refine go_seq ?_
 refine go_cut (fun e h=>e 3=.int .i64 (if x.txn=true then IntKind.i64.wrap (IntKind.i64.wrap (x.ctl * 2)+1)else IntKind.i64.wrap (x.ctl * 2))∧h=⟨G,[.reg 2 [.int .i64 0,.int .i64 0,.int .i64 0,.int .i64 0,.int .i64 0,.int .i64 0,.int .i64 0,.int .i64 0,.int .i64 0],.reg 1 [.int .i64 x.base,.int .i64 x.last,.int .i64 x.src,.int .i64 x.epoch,.int .i64 x.pid,.int .i64 x.gen,.int .i64 x.seq,.bool x.txn,.int .i64 x.ctl,.slice A x.recs.length c]],[]⟩) ?_ ?_
 ·intros;refine gr 0 0 ?_;refine sJ c192r2.eq_1 ?_
  intros;refine gc ?_;refine sI ?_
  refine gb (fun k1=>?_) (fun k1=>?_)
  ·intros;refine gr 9 11 ?_;refine sJ c192r3.eq_1 ?_
   (intros;try refine go_st ?_)
   refine go_l ⟨?_,rfl⟩
   rw[if_pos k1]
   (refine sI ?_;try with_reducible exact True.intro)
  ·(intros;try refine go_st ?_)
   refine go_l ⟨?_,rfl⟩
   rw[if_neg (by rw[k1];simp)]
   (refine sI ?_;try with_reducible exact True.intro)
 rintro e h ⟨e3,rfl⟩
 refine go_keep [3] ?_
 refine sJ @e3 ?_
 have hw:IntKind.i64.wrap ((if x.txn=true then IntKind.i64.wrap (IntKind.i64.wrap (x.ctl * 2)+1)else IntKind.i64.wrap (x.ctl * 2)) - IntKind.i64.wrap (x.ctl * 2))=(if x.txn=true then 1 else 0):=by
  simp only[IntKind.wrap_i64]
  split <;> omega
 intros;refine gr 12 33 ?_;(try simp -implicitDefEqProofs only[kR_e,kQ_e,push_cast,Nat.reduceBEq,Nat.reduceAdd,Nat.reduceSub,Nat.reduceMul,Nat.reduceLT,Nat.reduceLeDiff,Nat.reduceEqDiff,reduceIte,Bool.not_true,Bool.not_false,true_and,and_true,Option.map_some,Option.bind_some,Int.toNat_natCast,c192r4,hw])
 intros;refine rV ?_;simp only[push_cast,Nat.reduceBEq]
theorem Same_ok(x y:Batch)(cs ds:List Value)(G:Nat→Option Obj)(hx:BE G x cs)(hy:BE G y ds):FnS Tryz.prog 169 #[.agg cs.toArray,.agg ds.toArray] G (.bool (decide (x=y))):=by
 have hhx:=head_ok x cs G hx
 have hhy:=head_ok y ds G hy
 obtain⟨A,c,rfl,hA⟩:=hx.recs
 obtain⟨B,d,rfl,hB⟩:=hy.recs
 refine F169.fnS (by simp) (go_of ?_)
 unfold c169
 unfold cellH at hhx hhy ⊢
 intros;refine gr 0 0 ?_;refine sJ c169r0.eq_1 ?_
 intros;refine gr 7 11 ?_;refine sJ c169r1.eq_1 ?_
 refine(Equal_ok _ _ _ _ _ hA hB _ _).mono ?_;rintro _ _ ⟨rfl,rfl⟩;refine sI ?_
 intros;refine gc ?_;refine sI ?_
 refine gb (fun k1=>?_) (fun k1=>?_)
 ·have k1:¬ x.recs=y.recs:=by simpa using k1
  intros;refine gr 0 0 ?_;refine sJ c169r2.eq_1 ?_
  intros;refine rV ?_;simp only[push_cast,Nat.reduceBEq]
  rw[decide_eq_false fun h=>k1 (by rw[h])]
 have k1:x.recs=y.recs:=by simpa using k1
 intros;refine gN ?_
 intros;refine gr 0 0 ?_;refine sJ c169r3.eq_1 ?_
 (intros;try refine go_st ?_);refine go_x _ (List.Sublist.refl _) (by decide) ?_;refine sJ c169r4.eq_1 ?_
 refine .inl ⟨_,_,rfl,?_⟩
 refine(hhx _ _).mono ?_;rintro _ _ ⟨rfl,rfl⟩;refine sI ?_
 refine .inl ⟨_,_,rfl,?_⟩
 refine(hhy _ _).mono ?_;rintro _ _ ⟨rfl,rfl⟩;refine sI ?_
 intros;refine rV ?_;simp only[push_cast,Nat.reduceBEq]
 rw[sameB,k1]
 cases x.txn <;> cases y.txn <;> simp[Bool.and_assoc]
instance decI64 (n:Int):Decidable (I64 n):=by
 unfold I64
 infer_instance
end Go.Proofs.YtpmofpekcbghnaaGreat

/- Parts of a proof, 5 texts in one file. No condition. -/
import Derived.Laws.Strings
import Derived.Test.YtpmofpekcbghnaaGreatM1
import Derived.Test.YtpmofpekcbghnaaGreatM2
import Derived.Test.YtpmofpekcbghnaaGreatM3
set_option linter.unusedSimpArgs false
set_option linter.unusedVariables false
namespace Go.Proofs.YtpmofpekcbghnaaGreat
open Go Go.Kx
theorem F180:Fun Tryz.prog 180 91 v180 c180 o180:=Fun.mk' Tryz.func180 Tryz.ntmps180 (by kernel_rfl) (by kernel_rfl) s180 q180
theorem head_at{b:Batch}{k:Nat}{n:Int}(h:(headN b)[k]?=some n):ixVV 7 1 none (.agg #[.int .i64 b.base,.int .i64 (b.last - b.base),.int .i64 b.src,.int .i64 b.epoch,.int .i64 b.pid,.int .i64 b.gen,.int .i64 b.seq]) (.int .i64 (k:Int))=some (.int .i64 n):=by
 have hk:=(List.getElem?_eq_some_iff.1 h).1
 simp[headN]at hk
 match k,h with
 | 0,h=>cases h;rfl
 | 1,h=>cases h;rfl
 | 2,h=>cases h;rfl
 | 3,h=>cases h;rfl
 | 4,h=>cases h;rfl
 | 5,h=>cases h;rfl
 | 6,h=>cases h;rfl
theorem or_4{n:Int}(h:n=0∨n=1∨n=2):binV .or (.int .u8 (IntKind.u8.wrap n)) (.int .u8 4)=some (.int .u8 ((UInt8.ofNat (n.toNat+4)).toNat:Int)):=by
 rcases h with rfl | rfl | rfl <;> rfl
theorem mark_0{n:Int}(h:n=0∨n=1∨n=2):IntKind.u8.wrap n=((UInt8.ofNat n.toNat).toNat:Int):=by
 rcases h with rfl | rfl | rfl <;> rfl
theorem write_ok(x:Batch)(cs:List Value)(G:Nat→Option Obj)(hx:BE G x cs)(hf:Form x):FnO Tryz.prog 180 #[.agg cs.toArray] G [] (fun _ L' r=>OwnB (bytesB x) L' r):=by
 obtain⟨A,c,rfl,⟨hc,hm,hA⟩,i1,i2,i3,i4,i5,i6,i7,i8⟩:=hx
 have hf0:=hf
 obtain⟨⟨f1,f2,f3⟩,⟨f4,f5,f6⟩,⟨f7,f8,f9,f10⟩,f11,f12,f13⟩:=hf
 simp[rng]at f1 f2 f3 f4 f5 f6
 refine F180.fnO (by simp) noRegs_nil (go_of ?_)
 unfold c180 cellH
 have w1:IntKind.i64.wrap (x.last - x.base)=x.last - x.base:=by rw[w64_id] <;> omega
 intros;refine gr 0 0 ?_;refine sJ c180r0.eq_1 ?_
 intros;refine gr 0 0 ?_;refine sJ c180r1.eq_1 ?_
 intros;refine gr 13 29 ?_;refine sJ2 c180r2.eq_1 @w1 ?_
 (intros;try refine go_st ?_)
 refine go_ghost (ghost_nil none 5 1) ?_
 refine go_loop (fun e h=>∃ (k:Nat) (G':Nat→Option Obj) (u:Value) (zc:List Value),(k≤7∧Gle G G'∧Cells UE 1 (headB ((headN x).take k)) zc)∧e 30=.int .i64 k∧e 29=.agg #[.int .i64 x.base,.int .i64 (x.last - x.base),.int .i64 x.src,.int .i64 x.epoch,.int .i64 x.pid,.int .i64 x.gen,.int .i64 x.seq]∧e 3=u∧h.G=G'∧h.D=[]∧[.row u 5 1 (headB ((headN x).take k)).length zc,.reg 1 [.int .i64 x.base,.int .i64 x.last,.int .i64 x.src,.int .i64 x.epoch,.int .i64 x.pid,.int .i64 x.gen,.int .i64 x.seq,.bool x.txn,.int .i64 x.ctl,.slice A x.recs.length c]].Sublist h.L) (fun e h=>7 - iv (e 30)) ?_ ?_
 ·exact⟨0,G,_,[],⟨Nat.zero_le _,.refl _,.nil⟩,eE,eE,eE,rfl,rfl,List.Sublist.refl _⟩
 ·rintro e ⟨G',L,D⟩ ⟨k,G2,u,zc,⟨hk,hgg,hcs⟩,e30,e29,e3,hG,hD,hL⟩
  dsimp only at hG hD hL
  subst hG hD
  refine go_ghost (ghost_sub hL) ?_
  refine go_keep [3,29,30] ?_
  refine sJ3 @e3 @e29 @e30 ?_
  have hhl:=headB_len ((headN x).take k)
  have hh7:((headN x).take k).length≤7:=by simp[headN];omega
  intros;refine gr 0 0 ?_;refine sJ c180r3.eq_1 ?_
  intros;refine gc ?_;refine sI ?_
  refine gb (fun ht=>?_) (fun ht=>?_)
  ·have hkl:k < 7:=by simp at ht;omega
   have hw3:=inc_i k 7 (by omega) (by unfold maxLen;omega)
   obtain⟨n,hn⟩:∃ n,(headN x)[k]?=some n:=⟨(headN x)[k]'(by simp[headN];omega),List.getElem?_eq_getElem _⟩
   have hin:I64 n:=by
    have:=List.mem_of_getElem? hn
    simp[headN]at this
    unfold I64 at *
    omega
   have hix:=head_at hn
   have hsucc:=headB_succ hn
   (repeat first | refine go_skip ?_ | refine go_b ?_)
   intros;refine gr 32 33 ?_;refine sJ2 c180r4.eq_1 @hix ?_
   intros;refine gr 33 36 ?_;refine sJ c180r5.eq_1 ?_
   refine callsH_gx F200.enters (gx_slv_at [] _ (by decide) hcs) ?_
   rintro h' ⟨G3,rfl,hg3,hv3⟩
   refine(PutVar_ok _ n hin _ G3 hv3 (by omega) _ []).mono ?_
   rintro r h' ⟨G4,L',rfl,hg4,ys,hys,rfl⟩
   rw[← hsucc]at hys ⊢
   refine sI ?_
   intros;refine gr 36 37 ?_;refine sJ2 c180r6.eq_1 @hw3 ?_
   (intros;try refine go_st ?_)
   refine go_l ⟨⟨k+1,G4,_,ys,⟨by omega,hgg.trans (hg3.trans hg4),hys⟩,eE,eE,eE,rfl,rfl,List.Sublist.refl _⟩,?_⟩
   refine sI ?_
   omega
  ·have hkl:k=7:=by simp at ht;omega
   subst hkl
   rw[show(headN x).take 7=headN x from rfl]at hcs hhl ⊢
   have hmx:=form_recs hf0
   have hh8:(headN x).length=7:=rfl
   refine go_exit ?_
   refine sI ?_
   intros;refine gr 38 40 ?_;refine sJ c180r7.eq_1 ?_
   have hend:∀ (e:Env) (G6:Nat→Option Obj) (u:Value) (zc:List Value),Cells UE 1 (bodyB x) zc→(bodyB x).length≤5000→e 3=u →
     go none Tryz.prog 91 v180.1 v180.2 (retQ o180 fun v h=>OwnB (bytesB x) h.L v) [Td.s ((SC.reg false c180r20).seq ((SC.reg false c180r21).seq SC.ret))] e ⟨G6,[.row u 5 1 (bodyB x).length zc,.reg 1 [.int .i64 x.base,.int .i64 x.last,.int .i64 x.src,.int .i64 x.epoch,.int .i64 x.pid,.int .i64 x.gen,.int .i64 x.seq,.bool x.txn,.int .i64 x.ctl,.slice A x.recs.length c]],[]⟩:=fun e G6 u zc hzc hbl e3=>by
    refine go_keep [3] ?_
    refine sJ @e3 ?_
    intros;refine gr 83 85 ?_;refine sJ c180r20.eq_1 ?_
    refine callsH_gx F202.enters (gx_slv_at [] _ (by decide) hzc) ?_
    rintro h' ⟨G7,rfl,hg7,hv7⟩
    refine(Seal_ok _ _ G7 hv7 (by omega) _ []).mono ?_
    rintro r h' ⟨G8,L',rfl,hg8,ys,hys,rfl⟩
    refine sI ?_
    intro _
    have hsl:=sealB_len (bodyB x)
    refine go_gx (gx_slv_at [] _ (by decide) hys) ?_
    rintro h' ⟨G9,rfl,hg9,hv9⟩
    obtain⟨As,cs',rfl,-,-,-⟩:=id hv9
    have hwl:IntKind.u64.wrap ((sealB (bodyB x)).length:Int)=((sealB (bodyB x)).length:Int):=by rw[IntKind.wrap_u64];omega
    intros;refine gr 85 91 ?_;refine sJ2 c180r21.eq_1 @hwl ?_
    refine(OPut_ok [] (sealB (bodyB x)).length 4 (by omega) (by omega) _ G9 SB.nil (by simp) _ []).mono ?_
    rintro r h' ⟨G10,L',rfl,hg10,ys2,hys2,rfl⟩
    simp only[List.nil_append]at hys2 ⊢
    refine sI ?_
    refine apX_v (L1:=[]) (.inl rfl) (SB.le hv9 hg10) rfl UE1 (by rw[putN_len];unfold maxLen;omega) fun ys' A' c' hc'=>?_
    have hh:=hys2.app hc'
    refine sI ?_
    (intros;try refine go_st ?_)
    refine go_ret (retQ_o _ rfl (.cons_cons _ (List.nil_sublist _)) (noRegs_row noRegs_nil) ?_)
    rw[← List.length_append]
    exact⟨_,hh,rfl⟩
   have hrest:∀ (e:Env),e 3=u→e 6=.int .u8 ((markB x).toNat:Int) →
     go none Tryz.prog 91 v180.1 v180.2 (retQ o180 fun v h=>OwnB (bytesB x) h.L v) [Td.s ((SC.rgX c180r10).seq (((SC.reg false c180r11).seq (SC.cond (O.t 55) ((SC.reg false c180r12).seq ((SC.reg false c180r13).seq ((SC.reg false c180r14).seq (SC.blk 2 ((SC.reg false c180r15).seq ((SC.cond (O.t 68) SC.skip (SC.exit 2)).seq ((SC.blk 3 ((SC.reg false c180r16).seq ((SC.reg false c180r17).seq (SC.reg false c180r18)))).seq (SC.reg false c180r19)))).loop)))) SC.skip)).seq ((SC.reg false c180r20).seq ((SC.reg false c180r21).seq SC.ret))))] e ⟨G',[.row u 5 1 (headB (headN x)).length zc,.reg 1 [.int .i64 x.base,.int .i64 x.last,.int .i64 x.src,.int .i64 x.epoch,.int .i64 x.pid,.int .i64 x.gen,.int .i64 x.seq,.bool x.txn,.int .i64 x.ctl,.slice A x.recs.length c]],[]⟩:=fun e e3 e6=>by
    refine go_keep [3,6] ?_
    refine sJ2 @e3 @e6 ?_
    (intros;try refine go_st ?_);refine go_x _ (.cons _ (List.Sublist.refl _)) (by decide) ?_;refine sJ c180r10.eq_1 ?_
    intro bk hbk
    refine⟨grow_L (fun _ _ h=>h) (.cons _ (.cons _ (List.Sublist.refl _))),?_⟩
    refine sI ?_
    refine app8 (L1:=[]) (L2:=[_]) (x:=markB x) rfl rfl hcs (by omega) fun A' c' zc' hzc=>?_
    refine sI ?_
    refine⟨grow_L (fun _ _ h=>h) (.cons _ (.cons _ (List.Sublist.refl _))),?_⟩
    refine sI ?_
    refine callsH_gx F200.enters (gx_slv_at [_] _ (by decide) hzc) ?_
    rintro h' ⟨G4,rfl,hg4,hv4⟩
    refine(PutVar_ok _ x.recs.length (by unfold I64;omega) _ G4 hv4 (by simp;omega) _ []).mono ?_
    rintro r h' ⟨G5,L',rfl,hg5,ys5,hys5,rfl⟩
    refine⟨grow_L (hg4.trans hg5) (.cons _ (.cons _ (List.Sublist.refl _))),?_⟩
    refine sI ?_
    have hpl:=pvB_len x.recs.length
    (repeat first | (with_reducible intro _) | refine go_seq ?_)
    refine go_ghost (ghost_sub (L':=[.row r 5 1 (headB (headN x)++[markB x]++pvB x.recs.length).length ys5,.reg 1 [.int .i64 x.base,.int .i64 x.last,.int .i64 x.src,.int .i64 x.epoch,.int .i64 x.pid,.int .i64 x.gen,.int .i64 x.seq,.bool x.txn,.int .i64 x.ctl,.slice A x.recs.length c]]) ?hsub) ?_
    case hsub=>exact .cons_cons _ (.cons _ (List.Sublist.refl _))
    intros;refine gr 53 55 ?_;refine sJ c180r11.eq_1 ?_
    intros;refine gc ?_;refine sI ?_
    refine gb (fun k1=>?_) (fun k1=>?_)
    ·have hpos:0 < x.recs.length:=by simpa using k1
     obtain⟨r0,h0⟩:∃ r0,x.recs[0]?=some r0:=⟨x.recs[0],List.getElem?_eq_getElem hpos⟩
     have hg5:=hgg.trans (hg4.trans hg5)
     have hA5:=hA.le hg5 (E':=RR) fun _ _ h=>h
     intros;refine gr 57 61 ?_;refine sJ c180r12.eq_1 ?_
     refine hA5.x_lf h0 rfl rfl (fun cs h=>by rw[h.1];rfl) fun a ha=>?_
     refine sI ?_
     have hck0:=hmx.1 r0 (List.mem_of_getElem? h0)
     obtain⟨⟨-,q0⟩,-,-⟩:=chk_small hck0
     have q0':=q0
     simp[inO]at q0'
     have hst:I64 r0.stamp:=by unfold I64;omega
     intros;refine gr 61 64 ?_;refine sJ c180r13.eq_1 ?_
     refine callsH_gx F200.enters (gx_slv_at [] _ (by decide) hys5) ?_
     rintro h' ⟨G6,rfl,hg6,hv6⟩
     refine(PutVar_ok _ r0.stamp hst _ G6 hv6 (by simp;omega) _ []).mono ?_
     rintro r h' ⟨G7,L',rfl,hg7,ys7,hys7,rfl⟩
     have hp7:=pvB_len r0.stamp
     refine sI ?_
     have hA7:=hA5.le (hg6.trans hg7) (E':=RR) fun _ _ h=>h
     have hst0:tailB x=pvB r0.stamp++recsB x.base r0.stamp x.recs:=by
      match hr:x.recs,h0 with
      | r :: rs,h0=>simp[hr]at h0;subst h0;rw[tailB,hr]
     generalize hP:headB (headN x)++[markB x]++pvB x.recs.length++pvB r0.stamp=P at hys7 ⊢
     have hPl:P.length≤100:=by rw[← hP];simp;omega
     intros;refine gr 0 0 ?_;refine sJ c180r14.eq_1 ?_
     (intros;try refine go_st ?_)
     refine go_loop (fun e h=>∃ (k:Nat) (G':Nat→Option Obj) (u:Value) (zc:List Value),(k≤x.recs.length∧Gle G7 G'∧Cells UE 1 (P++recsB x.base r0.stamp (x.recs.take k)) zc∧(recsB x.base r0.stamp (x.recs.take k)).length≤169 * k)∧e 67=.int .i64 k∧e 66=.int .i64 x.recs.length∧e 65=.slice A x.recs.length c∧e 7=.int .i64 r0.stamp∧e 3=u∧h.G=G'∧h.D=[]∧[.row u 5 1 (P++recsB x.base r0.stamp (x.recs.take k)).length zc,.reg 1 [.int .i64 x.base,.int .i64 x.last,.int .i64 x.src,.int .i64 x.epoch,.int .i64 x.pid,.int .i64 x.gen,.int .i64 x.seq,.bool x.txn,.int .i64 x.ctl,.slice A x.recs.length c]].Sublist h.L) (fun e h=>x.recs.length - iv (e 67)) ?_ ?_
     ·exact⟨0,G7,r,ys7,⟨Nat.zero_le _,.refl _,by simpa [recsB]using hys7,by simp[recsB]⟩,eE,eE,eE,eE,eE,rfl,rfl,by simp[recsB]⟩
     ·rintro e ⟨G',L,D⟩ ⟨k,G2,u,zc,⟨hk,hgg,hcs,hrl⟩,e67,e66,e65,e7,e3,hG,hD,hL⟩
      dsimp only at hG hD hL
      subst hG hD
      refine go_ghost (ghost_sub hL) ?_
      refine go_keep [3,7,65,66,67] ?_
      refine sJ5 @e3 @e7 @e65 @e66 @e67 ?_
      intros;refine gr 0 0 ?_;refine sJ c180r15.eq_1 ?_
      intros;refine gc ?_;refine sI ?_
      refine gb (fun ht=>?_) (fun ht=>?_)
      ·have hkl:k < x.recs.length:=by simpa using ht
       have hw3:=inc_i k c (by omega) hm
       obtain⟨r,hr⟩:∃ r,x.recs[k]?=some r:=⟨x.recs[k],List.getElem?_eq_getElem (by omega)⟩
       have hsucc:=recsB_succ (base:=x.base) (stamp:=r0.stamp) hr
       have hckr:=hmx.1 r (List.mem_of_getElem? hr)
       have hcs':=chk_small hckr
       have hpl:=prB_len (base:=x.base) (stamp:=r0.stamp) hcs'.2.1 hcs'.2.2
       have hput:putR r x.base r0.stamp=(prB r x.base r0.stamp,0):=by
        rw[putR,if_neg (by simp[hckr]),if_neg (by simp[inO,f1,q0'])]
       have hAk:=hA7.le hgg (E':=RR) fun _ _ h=>h
       intros;refine gN ?_
       intros;refine gr 69 71 ?_;refine sJ c180r16.eq_1 ?_
       refine hAk.x_ld hr rfl rfl ?_
       rintro a1 ha1 cs ⟨rfl,-⟩
       have hPut:=Put_ok r x.base r0.stamp
       unfold cellR at hPut ⊢
       refine sI ?_
       intros;refine gr 71 79 ?_;refine sJ c180r17.eq_1 ?_
       refine(hPut G' _ []).mono ?_
       rintro v h' ⟨G8,L',rfl,hg8,w,rfl,ys8,hys8,rfl⟩
       rw[hput]at hys8 ⊢
       refine sI ?_
       intro _
       refine go_gx (gx_slv_at [] _ (by decide) hys8) ?_
       rintro h' ⟨G9,rfl,hg9,hv9⟩
       intros;refine gr 79 82 ?_;refine sJ c180r18.eq_1 ?_
       refine apX_v (L1:=[_]) (.inl rfl) hv9 rfl UE1 (by simp;unfold maxLen;omega) fun ys' A' c' hc'=>?_
       have hh:=hcs.app hc'
       rw[List.append_assoc,← hsucc]at hh
       rw[← List.length_append,List.append_assoc,← hsucc]
       refine sI ?_
       intros;refine gr 82 83 ?_;refine sJ2 c180r19.eq_1 @hw3 ?_
       (intros;try refine go_st ?_)
       refine go_l ⟨⟨k+1,G9,_,_,⟨by omega,hgg.trans (hg8.trans hg9),hh,by rw[hsucc,List.length_append];omega⟩,eE,eE,eE,eE,eE,rfl,rfl,.cons _ (List.Sublist.refl _)⟩,?_⟩
       refine sI ?_
       omega
      ·have hkl:k=x.recs.length:=by simp at ht;omega
       subst hkl
       rw[List.take_length]at hcs hrl
       have hbody:bodyB x=P++recsB x.base r0.stamp x.recs:=by rw[bodyB,hst0,← hP];simp
       refine go_exit ?_
       refine sI ?_
       rw[List.take_length,← hbody]
       rw[← hbody]at hcs
       refine hend _ G' _ zc hcs (by rw[hbody];simp;omega) ?_
       (refine sI ?_;try with_reducible exact True.intro)
    ·have hnil:x.recs=[]:=by have:=of_decide_eq_false k1;exact List.eq_nil_of_length_eq_zero (by omega)
     have htl:tailB x=[]:=by rw[tailB,hnil]
     have hbody:bodyB x=headB (headN x)++[markB x]++pvB x.recs.length:=by rw[bodyB,htl,List.append_nil]
     rw[← hbody]at hys5 ⊢
     (repeat first | refine go_skip ?_ | refine go_b ?_)
     refine hend _ G5 _ ys5 hys5 (by rw[hbody];simp;omega) ?_
     (refine sI ?_;try with_reducible exact True.intro)
   have hctl:x.ctl=0∨x.ctl=1∨x.ctl=2:=by
    rcases f13 with h | h
    ·exact .inl h.1
    ·exact .inr h.1
   intros;refine gr 0 0 ?_;refine sJ c180r8.eq_1 ?_
   intros;refine gc ?_;refine sI ?_
   refine gb (fun k1=>?_) (fun k1=>?_)
   ·have hm4:=or_4 hctl
    intros;refine gr 42 44 ?_;refine sJ2 c180r9.eq_1 @hm4 ?_
    intro _
    (repeat first | refine go_skip ?_ | refine go_b ?_)
    refine hrest _ ?_ ?_ <;> (refine sI ?_;try with_reducible exact True.intro)
    rw[markB,if_pos k1]
   ·(repeat first | refine go_skip ?_ | refine go_b ?_)
    refine hrest _ ?_ ?_ <;> (refine sI ?_;try with_reducible exact True.intro)
    rw[markB,if_neg (by rw[k1];simp),mark_0 hctl]
    rfl
theorem F128:Fun Tryz.prog 128 91 v128 c128 o128:=Fun.mkA Tryz.func128 Tryz.ntmps128
theorem cells_i:∀ (l:List Int),(∀ x∈l,I64 x)→Cells IE 1 l (l.map fun n=>.int .i64 n)
 | [],_=>.nil
 | n :: l,h=>.cons (cs:=[.int .i64 n]) ⟨rfl,h n (.head _)⟩ rfl (cells_i l fun x hx=>h x (.tail _ hx))
theorem mark_r{n:Int}(h:n=0∨n=1∨n=2):IntKind.u8.wrap (IntKind.i64.wrap (n+4))=((UInt8.ofNat (n.toNat+4)).toNat:Int):=by
 rcases h with rfl | rfl | rfl <;> rfl
def tailK(x:Batch)(k:Nat):List UInt8:=tailB { x with recs:=x.recs.take k }
theorem tailK_0(x:Batch):tailK x 0=[]:=by simp[tailK,tailB]
theorem tailK_n(x:Batch):tailK x x.recs.length=tailB x:=by simp[tailK]
theorem tailK_pos{x:Batch}{k:Nat}{r0:Rec}(h0:x.recs[0]?=some r0)(hk:0 < k):tailK x k=pvB r0.stamp++recsB x.base r0.stamp (x.recs.take k):=by
 match hr:x.recs,h0 with
 | r :: rs,h0 =>
  simp at h0
  subst h0
  obtain⟨k,rfl⟩:∃ j,k=j+1:=⟨k - 1,by omega⟩
  simp[tailK,tailB,hr]
theorem tailK_succ{x:Batch}{k:Nat}{r r0:Rec}(h0:x.recs[0]?=some r0)(hr:x.recs[k]?=some r):tailK x (k+1)=tailK x k++(if k=0 then pvB r0.stamp else[])++prB r x.base r0.stamp:=by
 rw[tailK_pos h0 (by omega),recsB_succ hr]
 by_cases hk:k=0
 ·subst hk
  simp[tailK_0,recsB]
 ·rw[tailK_pos h0 (by omega),if_neg hk]
  simp
theorem bytes_ok(x:Batch)(cs:List Value)(G:Nat→Option Obj)(hx:BE G x cs)(hf:Form x):FnO Tryz.prog 128 #[.agg cs.toArray] G [] (fun _ L' r=>OwnB (bytesB x) L' r):=by
 obtain⟨A,c,rfl,⟨hc,hm,hA⟩,i1,i2,i3,i4,i5,i6,i7,i8⟩:=hx
 have hf0:=hf
 obtain⟨⟨f1,f2,f3⟩,⟨f4,f5,f6⟩,⟨f7,f8,f9,f10⟩,f11,f12,f13⟩:=hf
 simp[rng]at f1 f2 f3 f4 f5 f6
 refine F128.fnO (by simp) noRegs_nil (go_of ?_)
 unfold c128 cellH
 have w1:IntKind.i64.wrap (x.last - x.base)=x.last - x.base:=by rw[w64_id] <;> omega
 have hin:∀ n∈headN x,I64 n:=by
  intro n hn
  simp[headN]at hn
  unfold I64 at *
  omega
 intros;refine gr 0 0 ?_;refine sJ c128r0.eq_1 ?_
 intros;refine gr 0 0 ?_;refine sJ c128r1.eq_1 ?_
 intros;refine gr 12 28 ?_;refine sJ2 c128r2.eq_1 @w1 ?_
 intro b0 hb0
 refine sI ?_
 (intros;try refine go_st ?_)
 refine go_gx (gx_slv_at [] _ (by decide) (cells_i _ hin)) ?_
 rintro h' ⟨G1,rfl,hg1,A7,c7,hA7e,hl7,hm7,hA7⟩
 cases hA7e
 refine go_ghost (ghost_nil none 5 1) ?_
 refine go_loop (fun e h=>∃ (k:Nat) (G':Nat→Option Obj) (u:Value) (zc:List Value),(k≤7∧Gle G1 G'∧Cells UE 1 (headB ((headN x).take k)) zc)∧e 30=.int .i64 k∧e 29=.int .i64 7∧e 28=.slice (some ⟨b0,0,none⟩) 7 7∧e 3=u∧h.G=G'∧h.D=[]∧[.row u 5 1 (headB ((headN x).take k)).length zc,.reg 1 [.int .i64 x.base,.int .i64 x.last,.int .i64 x.src,.int .i64 x.epoch,.int .i64 x.pid,.int .i64 x.gen,.int .i64 x.seq,.bool x.txn,.int .i64 x.ctl,.slice A x.recs.length c]].Sublist h.L) (fun e h=>7 - iv (e 30)) ?_ ?_
 ·exact⟨0,G1,_,[],⟨Nat.zero_le _,.refl _,.nil⟩,eE,by refine sI ?_;rfl,eE,eE,rfl,rfl,List.Sublist.refl _⟩
 ·rintro e ⟨G',L,D⟩ ⟨k,G2,u,zc,⟨hk,hgg,hcs⟩,e30,e29,e28,e3,hG,hD,hL⟩
  dsimp only at hG hD hL
  subst hG hD
  refine go_ghost (ghost_sub hL) ?_
  refine go_keep [3,28,29,30] ?_
  refine sJ4 @e3 @e28 @e29 @e30 ?_
  have hhl:=headB_len ((headN x).take k)
  have hh7:((headN x).take k).length≤7:=by simp[headN];omega
  intros;refine gr 0 0 ?_;refine sJ c128r3.eq_1 ?_
  intros;refine gc ?_;refine sI ?_
  refine gb (fun ht=>?_) (fun ht=>?_)
  ·have hkl:k < 7:=by simp at ht;omega
   have hw3:=inc_i k 7 (by omega) (by unfold maxLen;omega)
   obtain⟨n,hn⟩:∃ n,(headN x)[k]?=some n:=⟨(headN x)[k]'(by simp[headN];omega),List.getElem?_eq_getElem _⟩
   have hsucc:=headB_succ hn
   have hA7':=hA7.le hgg (E':=IE) fun _ _ h=>h
   intros;refine gN ?_
   intros;refine gr 32 34 ?_;refine sJ c128r4.eq_1 ?_
   refine hA7'.x_l1 hn rfl rfl ?_
   rintro a1 ha1 v ⟨hv,hni⟩
   cases hv
   refine sI ?_
   intros;refine gr 34 37 ?_;refine sJ c128r5.eq_1 ?_
   refine callsH_gx F162.enters (gx_slv_at [] _ (by decide) hcs) ?_
   rintro h' ⟨G3,rfl,hg3,hv3⟩
   refine(RPutVar_ok _ n hni _ G3 hv3 (by omega) _ []).mono ?_
   rintro r h' ⟨G4,L',rfl,hg4,ys,hys,rfl⟩
   rw[← hsucc]at hys ⊢
   refine sI ?_
   intros;refine gr 37 38 ?_;refine sJ2 c128r6.eq_1 @hw3 ?_
   (intros;try refine go_st ?_)
   refine go_l ⟨⟨k+1,G4,_,ys,⟨by omega,hgg.trans (hg3.trans hg4),hys⟩,eE,eE,eE,eE,rfl,rfl,List.Sublist.refl _⟩,?_⟩
   refine sI ?_
   omega
  ·have hkl:k=7:=by simp at ht;omega
   subst hkl
   rw[show(headN x).take 7=headN x from rfl]at hcs hhl ⊢
   have hmx:=form_recs hf0
   have hh8:(headN x).length=7:=rfl
   have hgg':=hg1.trans hgg
   refine go_exit ?_
   refine sI ?_
   intros;refine gr 39 40 ?_;refine sJ c128r7.eq_1 ?_
   intros;try refine go_seq ?_
   have hctl:x.ctl=0∨x.ctl=1∨x.ctl=2:=by
    rcases f13 with h | h
    ·exact .inl h.1
    ·exact .inr h.1
   refine go_cut (fun e h=>∃ n:Int,e 3=u∧e 6=.int .i64 n∧IntKind.u8.wrap n=((markB x).toNat:Int)∧h=⟨G',[.row u 5 1 (headB (headN x)).length zc,.reg 1 [.int .i64 x.base,.int .i64 x.last,.int .i64 x.src,.int .i64 x.epoch,.int .i64 x.pid,.int .i64 x.gen,.int .i64 x.seq,.bool x.txn,.int .i64 x.ctl,.slice A x.recs.length c]],[]⟩) ?_ ?_
   ·intros;refine gr 0 0 ?_;refine sJ c128r8.eq_1 ?_
    intros;refine gc ?_;refine sI ?_
    refine gb (fun k1=>?_) (fun k1=>?_)
    ·intros;refine gr 42 44 ?_;refine sJ c128r9.eq_1 ?_
     (intros;try refine go_st ?_)
     refine go_l ⟨IntKind.i64.wrap (x.ctl+4),eE,eE,?_,rfl⟩
     rw[mark_r hctl,markB,if_pos k1]
    ·(intros;try refine go_st ?_)
     refine go_l ⟨x.ctl,eE,eE,?_,rfl⟩
     rw[mark_0 hctl,markB,if_neg (by rw[k1];simp)]
     rfl
   rintro e h ⟨nm,e3,e6,hnm,rfl⟩
   refine go_keep [3,6] ?_
   refine sJ2 @e3 @e6 ?_
   (intros;try refine go_st ?_);refine go_x _ (.cons _ (List.Sublist.refl _)) (by decide) ?_;refine sJ2 c128r10.eq_1 @hnm ?_
   intro bk hbk
   refine⟨grow_L (fun _ _ h=>h) (.cons _ (.cons _ (List.Sublist.refl _))),?_⟩
   refine sI ?_
   refine app8 (L1:=[]) (L2:=[_]) (x:=markB x) rfl rfl hcs (by omega) fun A' c' zc' hzc=>?_
   refine sI ?_
   refine⟨grow_L (fun _ _ h=>h) (.cons _ (.cons _ (List.Sublist.refl _))),?_⟩
   refine sI ?_
   refine callsH_gx F162.enters (gx_slv_at [_] _ (by decide) hzc) ?_
   rintro h' ⟨G4,rfl,hg4,hv4⟩
   refine(RPutVar_ok _ x.recs.length (by unfold I64;omega) _ G4 hv4 (by simp;omega) _ []).mono ?_
   rintro r h' ⟨G5,L',rfl,hg5,ys5,hys5,rfl⟩
   refine⟨grow_L (hg4.trans hg5) (.cons _ (.cons _ (List.Sublist.refl _))),?_⟩
   refine sI ?_
   have hpl:=pvB_len x.recs.length
   (repeat first | (with_reducible intro _) | refine go_seq ?_)
   refine go_ghost (ghost_sub (L':=[.row r 5 1 (headB (headN x)++[markB x]++pvB x.recs.length).length ys5,.reg 1 [.int .i64 x.base,.int .i64 x.last,.int .i64 x.src,.int .i64 x.epoch,.int .i64 x.pid,.int .i64 x.gen,.int .i64 x.seq,.bool x.txn,.int .i64 x.ctl,.slice A x.recs.length c]]) (.cons_cons _ (.cons _ (List.Sublist.refl _)))) ?_
   generalize hP:headB (headN x)++[markB x]++pvB x.recs.length=P at hys5 ⊢
   have hPl:P.length≤90:=by rw[← hP];simp;omega
   have hA5:=hA.le (hgg'.trans (hg4.trans hg5)) (E':=RR) fun _ _ h=>h
   intros;refine gr 0 0 ?_;refine sJ c128r11.eq_1 ?_
   (intros;try refine go_st ?_)
   refine go_loop (fun e h=>∃ (k:Nat) (G':Nat→Option Obj) (u:Value) (zc zs:List Value),(k≤x.recs.length∧Gle G5 G'∧Cells UE 1 (P++tailK x k) zc∧(tailK x k).length≤179 * k)∧e 56=.int .i64 k∧e 55=.int .i64 x.recs.length∧e 54=.slice A x.recs.length c∧e 3=u∧h.G=G'∧h.D=[]∧[.row u 5 1 (P++tailK x k).length zc,.reg 1 [.int .i64 x.base,.int .i64 x.last,.int .i64 x.src,.int .i64 x.epoch,.int .i64 x.pid,.int .i64 x.gen,.int .i64 x.seq,.bool x.txn,.int .i64 x.ctl,.slice A x.recs.length c]].Sublist h.L) (fun e h=>x.recs.length - iv (e 56)) ?_ ?_
   ·exact⟨0,G5,r,ys5,[],⟨Nat.zero_le _,.refl _,by simpa [tailK_0]using hys5,by simp[tailK_0]⟩,eE,eE,eE,eE,rfl,rfl,by simp[tailK_0]⟩
   ·rintro e ⟨G'',L,D⟩ ⟨k,G2,u2,zc2,-,⟨hk,hgg2,hcs2,hrl⟩,e56,e55,e54,e3,hG,hD,hL⟩
    dsimp only at hG hD hL
    subst hG hD
    refine go_ghost (ghost_sub hL) ?_
    refine go_keep [3,54,55,56] ?_
    refine sJ4 @e3 @e54 @e55 @e56 ?_
    intros;refine gr 0 0 ?_;refine sJ c128r12.eq_1 ?_
    intros;refine gc ?_;refine sI ?_
    refine gb (fun ht=>?_) (fun ht=>?_)
    ·have hkl:k < x.recs.length:=by simpa using ht
     have hw3:=inc_i k c (by omega) hm
     obtain⟨r,hr⟩:∃ r,x.recs[k]?=some r:=⟨x.recs[k],List.getElem?_eq_getElem (by omega)⟩
     obtain⟨r0,h0⟩:∃ r,x.recs[0]?=some r:=⟨x.recs[0],List.getElem?_eq_getElem (by omega)⟩
     have hsucc:=tailK_succ h0 hr
     have hck0:=hmx.1 r0 (List.mem_of_getElem? h0)
     obtain⟨⟨-,q0⟩,-,-⟩:=chk_small hck0
     simp[inO]at q0
     have hst:I64 r0.stamp:=by unfold I64;omega
     have hpst:=pvB_len r0.stamp
     have hckr:=hmx.1 r (List.mem_of_getElem? hr)
     have hcs':=chk_small hckr
     have hplr:=prB_len (base:=x.base) (stamp:=r0.stamp) hcs'.2.1 hcs'.2.2
     have hput:putR r x.base r0.stamp=(prB r x.base r0.stamp,0):=by
      rw[putR,if_neg (by simp[hckr]),if_neg (by simp[inO,f1,q0])]
     have hAk:=hA5.le hgg2 (E':=RR) fun _ _ h=>h
     intros;refine gN ?_
     intros;refine gr 58 61 ?_;refine sJ c128r13.eq_1 ?_
     refine hAk.x_ld hr rfl rfl ?_
     rintro a1 ha1 cs ⟨rfl,-⟩
     have hPut:=RPut_ok r x.base r0.stamp
     unfold cellR at hPut ⊢
     refine sI ?_
     intros;try refine go_seq ?_
     refine go_ghost (ghost_perm (.swap _ _ _)) ?_
     refine go_cut (fun e h=>∃ (u:Value) (zc:List Value) (G3:Nat→Option Obj),e 56=.int .i64 k∧e 55=.int .i64 x.recs.length∧e 54=.slice A x.recs.length c∧e 3=u∧Cells UE 1 (P++tailK x k++(if k=0 then pvB r0.stamp else[])) zc∧Gle G'' G3 ∧
      h=⟨G3,[.row u 5 1 (P++tailK x k++(if k=0 then pvB r0.stamp else[])).length zc,.reg 8 [.int .i64 r.off,.string r.key,.string r.val,.bool r.dead,.int .i64 r.stamp],.reg 1 [.int .i64 x.base,.int .i64 x.last,.int .i64 x.src,.int .i64 x.epoch,.int .i64 x.pid,.int .i64 x.gen,.int .i64 x.seq,.bool x.txn,.int .i64 x.ctl,.slice A x.recs.length c]],[]⟩) ?_ ?_
     ·intros;refine gr 61 62 ?_;refine sJ c128r14.eq_1 ?_
      intros;refine gc ?_;refine sI ?_
      refine gb (fun k1=>?_) (fun k1=>?_)
      ·have hk0:k=0:=by simpa using k1
       subst hk0
       obtain rfl:r=r0:=by rw[h0]at hr;cases hr;rfl
       intros;refine gr 63 67 ?_;refine sJ c128r15.eq_1 ?_
       refine callsH_gx F162.enters (gx_slv_at [] _ (by decide) hcs2) ?_
       rintro h' ⟨G6,rfl,hg6,hv6⟩
       refine(RPutVar_ok _ r.stamp hst _ G6 hv6 (by simp;omega) _ []).mono ?_
       rintro r h' ⟨G7,L',rfl,hg7,ys7,hys7,rfl⟩
       refine sI ?_
       (intros;try refine go_st ?_)
       exact go_l ⟨_,ys7,G7,eE,eE,eE,eE,hys7,hg6.trans hg7,rfl⟩
      ·have hk0:¬ k=0:=by simpa using k1
       rw[if_neg hk0,List.append_nil]
       (intros;try refine go_st ?_)
       exact go_l ⟨_,zc2,G'',eE,eE,eE,eE,hcs2,.refl _,rfl⟩
     rintro e h ⟨u3,zc3,G3,e56,e55,e54,e3,hcs3,hg3,rfl⟩
     refine go_keep [3,54,55,56] ?_
     refine sJ4 @e3 @e54 @e55 @e56 ?_
     have hA3:=hAk.le hg3 (E':=RR) fun _ _ h=>h
     (intros;try refine go_st ?_);refine go_x _ (.cons _ (List.Sublist.refl _)) (by decide) ?_;refine sJ c128r16.eq_1 ?_
     refine hA3.y_lf h0 rfl rfl (fun cs h=>by rw[h.1];rfl) fun a ha=>?_
     refine sI ?_
     refine(hPut G3 _ []).mono ?_
     rintro v h' ⟨G8,L',rfl,hg8,w,rfl,ys8,hys8,rfl⟩
     rw[hput]at hys8 ⊢
     refine⟨grow_L hg8 (.cons _ (.cons _ (List.Sublist.refl _))),?_⟩
     refine sI ?_
     (repeat first | (with_reducible intro _) | refine go_seq ?_)
     refine go_gx (gx_slv_at [] _ (by decide) hys8) ?_
     rintro h' ⟨G9,rfl,hg9,hv9⟩
     intros;refine gr 79 82 ?_;refine sJ c128r17.eq_1 ?_
     refine apX_v (L1:=[]) (.inl rfl) hv9 rfl UE1 (by simp;unfold maxLen;split <;> simp <;> omega) fun ys' A' c' hc'=>?_
     have hh:=hcs3.app hc'
     have hassoc:P++tailK x k++(if k=0 then pvB r0.stamp else[])++prB r x.base r0.stamp=P++tailK x (k+1):=by rw[hsucc];simp
     rw[hassoc]at hh
     rw[← List.length_append,hassoc]
     refine sI ?_
     intros;refine gr 82 83 ?_;refine sJ2 c128r18.eq_1 @hw3 ?_
     (intros;try refine go_st ?_)
     refine go_l ⟨⟨k+1,G9,_,_,[],⟨by omega,hgg2.trans (hg3.trans (hg8.trans hg9)),hh,by rw[hsucc];simp only[List.length_append];split <;> (try simp only[List.length_nil]) <;> omega⟩,eE,eE,eE,eE,rfl,rfl,.cons_cons _ (.cons _ (List.Sublist.refl _))⟩,?_⟩
     refine sI ?_
     omega
    ·have hkl:k=x.recs.length:=by simp at ht;omega
     subst hkl
     rw[tailK_n]at hcs2 hrl
     have hbody:bodyB x=P++tailB x:=by rw[bodyB,← hP]
     refine go_exit ?_
     refine sI ?_
     rw[tailK_n,← hbody]
     rw[← hbody]at hcs2
     have hbl:(bodyB x).length≤5000:=by rw[hbody];simp;omega
     intros;refine gr 83 85 ?_;refine sJ c128r19.eq_1 ?_
     refine callsH_gx F164.enters (gx_slv_at [] _ (by decide) hcs2) ?_
     rintro h' ⟨G7,rfl,hg7,hv7⟩
     refine(RSeal_ok _ _ G7 hv7 (by omega) _ []).mono ?_
     rintro r h' ⟨G8,L',rfl,hg8,ys,hys,rfl⟩
     refine sI ?_
     intro _
     have hsl:=sealB_len (bodyB x)
     refine go_gx (gx_slv_at [] _ (by decide) hys) ?_
     rintro h' ⟨G9,rfl,hg9,hv9⟩
     obtain⟨As,cs',rfl,-,-,-⟩:=id hv9
     have hwl:IntKind.u64.wrap ((sealB (bodyB x)).length:Int)=((sealB (bodyB x)).length:Int):=by rw[IntKind.wrap_u64];omega
     intros;refine gr 85 91 ?_;refine sJ2 c128r20.eq_1 @hwl ?_
     refine(ROPut_ok [] (sealB (bodyB x)).length 4 (by omega) (by omega) _ G9 SB.nil (by simp) _ []).mono ?_
     rintro r h' ⟨G10,L',rfl,hg10,ys2,hys2,rfl⟩
     simp only[List.nil_append]at hys2 ⊢
     refine sI ?_
     refine apX_v (L1:=[]) (.inl rfl) (SB.le hv9 hg10) rfl UE1 (by rw[putN_len];unfold maxLen;omega) fun ys' A' c' hc'=>?_
     have hh:=hys2.app hc'
     refine sI ?_
     (intros;try refine go_st ?_)
     refine go_ret (retQ_o _ rfl (.cons_cons _ (List.nil_sublist _)) (noRegs_row noRegs_nil) ?_)
     rw[← List.length_append]
     exact⟨_,hh,rfl⟩
theorem F154:Fun Tryz.prog 154 14 v154 c154 o154:=Fun.mkA Tryz.func154 Tryz.ntmps154
theorem F118:Fun Tryz.prog 118 11 v118 c118 o118:=Fun.mkA Tryz.func118 Tryz.ntmps118
theorem F73:Fun Tryz.prog 73 10 v73 c73 o73:=Fun.mkA Tryz.func73 Tryz.ntmps73
theorem F120:Fun Tryz.prog 120 12 v120 c120 o120:=Fun.mkA Tryz.func120 Tryz.ntmps120
def errB(b:Batch):Int:=if Form b then(if (bytesB b).length≤2048 then 0 else 2)else 1
def putB(b:Batch):List UInt8 × Int:=if errB b=0 then(bytesB b,0)else([],errB b)
def sizeB(b:Batch):Nat:=(putB b).1.length
theorem errB_n{b:Batch}(h:¬ Form b):errB b=1:=if_neg h
theorem errB_2{b:Batch}(h:Form b)(h2:¬ (bytesB b).length≤2048):errB b=2:=by rw[errB,if_pos h,if_neg h2]
theorem errB_0{b:Batch}(h:Form b)(h2:(bytesB b).length≤2048):errB b=0:=by rw[errB,if_pos h,if_pos h2]
theorem putB_0{b:Batch}(h:errB b=0):putB b=(bytesB b,0):=if_pos h
theorem putB_n{b:Batch}(h:¬ errB b=0):putB b=([],errB b):=if_neg h
theorem errB_ok{b:Batch}(h:errB b=0):Form b∧(bytesB b).length≤2048:=by
 unfold errB at h
 split at h
 ·rename_i h1
  split at h
  ·rename_i h2;exact⟨h1,h2⟩
  ·cases h
 ·cases h
theorem bodyB_len{b:Batch}(hf:Form b):(bodyB b).length≤4900:=by
 obtain⟨h1,h2⟩:=form_recs hf
 have a1:=headB_len (headN b)
 have a2:(headN b).length=7:=rfl
 have a3:=pvB_len b.recs.length
 have a4:(tailB b).length≤10+169 * b.recs.length:=by
  cases hr:b.recs with
  | nil=>simp[tailB,hr]
  | cons r rs =>
   have a5:=pvB_len r.stamp
   have a6:∀ (l:List Rec) (st:Int),(∀ r∈l,chkR r=0)→(recsB b.base st l).length≤169 * l.length:=fun l=>by
    induction l with
    | nil=>simp[recsB]
    | cons q l ih =>
     intro st h
     have e1:=ih st fun r hr=>h r (.tail _ hr)
     have e2:=chk_small (h q (.head _))
     have e3:=prB_len (base:=b.base) (stamp:=st) e2.2.1 e2.2.2
     simp[recsB]at e1 ⊢
     omega
   have a7:=a6 (r :: rs) r.stamp (by rw[← hr];exact h1)
   simp only[tailB,hr,List.length_append]
   omega
 simp only[bodyB,List.length_append,List.length_cons,List.length_nil]
 omega
theorem bytesB_len(b:Batch):(bytesB b).length=(bodyB b).length+8:=by
 simp only[bytesB,List.length_append,putN_len,sealB_len]
 omega
theorem BPut_ok(x:Batch)(cs:List Value)(G:Nat→Option Obj)(hx:BE G x cs):FnO Tryz.prog 154 #[.agg cs.toArray] G [] (fun _ L' r=>OwnE (putB x) L' r):=by
 have h1:=formed_ok x cs G hx
 have h2:=write_ok x cs G hx
 obtain⟨A,c,rfl,-⟩:=hx
 refine F154.fnO (by simp) noRegs_nil (go_of ?_)
 unfold c154
 unfold cellH at h1 h2 ⊢
 intros;refine gr 0 0 ?_;refine sJ c154r0.eq_1 ?_
 intros;refine gr 5 7 ?_;refine sJ c154r1.eq_1 ?_
 refine(h1 _ _).mono ?_;rintro _ _ ⟨rfl,rfl⟩;refine sI ?_
 intros;refine gc ?_;refine sI ?_
 refine gb (fun k1=>?_) (fun k1=>?_)
 ·have k1:¬ Form x:=by simpa using k1
  intros;refine gr 0 0 ?_;refine sJ c154r2.eq_1 ?_
  (intros;try refine go_st ?_)
  refine go_ghost (ghost_nil none 5 1) ?_
  refine go_ret (retQ_o _ rfl (.cons_cons _ (List.nil_sublist _)) (noRegs_row noRegs_nil) ?_)
  have he:=errB_n k1
  rw[putB_n (by rw[he];decide),he]
  exact⟨_,rfl,[],.nil,rfl⟩
 have k1:Form x:=by simpa using k1
 have hbl:=bodyB_len k1
 have hwl:=bytesB_len x
 intros;refine gN ?_
 intros;refine gr 8 10 ?_;refine sJ c154r3.eq_1 ?_
 refine(h2 k1 _ []).mono ?_
 rintro r h' ⟨G1,L',rfl,hg1,ys,hys,rfl⟩
 refine sI ?_
 intro _
 intros;try refine go_seq ?_
 refine go_gx (gx_knowS (.head _)) ?_
 rintro h' ⟨rfl,A2,c2,rfl,hc2,hm2⟩
 intros;refine gr 10 12 ?_;refine sJ c154r4.eq_1 ?_
 intros;refine gc ?_;refine sI ?_
 refine gb (fun k2=>?_) (fun k2=>?_)
 ·have k2:¬ (bytesB x).length≤2048:=by have:=of_decide_eq_true k2;omega
  intros;refine gr 0 0 ?_;refine sJ c154r5.eq_1 ?_
  (intros;try refine go_st ?_)
  refine go_ghost (ghost_nil none 5 1) ?_
  refine go_ret (retQ_o _ rfl (.cons_cons _ (List.nil_sublist _)) (noRegs_row noRegs_nil) ?_)
  have he:=errB_2 k1 k2
  rw[putB_n (by rw[he];decide),he]
  exact⟨_,rfl,[],.nil,rfl⟩
 ·have k2:(bytesB x).length≤2048:=by have:=of_decide_eq_false k2;omega
  intros;refine gN ?_
  intros;refine gr 13 14 ?_;refine sJ c154r6.eq_1 ?_
  (intros;try refine go_st ?_)
  refine go_ret (retQ_o _ rfl (.cons_cons _ (List.nil_sublist _)) (noRegs_row noRegs_nil) ?_)
  rw[putB_0 (errB_0 k1 k2)]
  exact⟨_,rfl,ys,hys,rfl⟩
theorem RBCheck_ok(x:Batch)(cs:List Value)(G:Nat→Option Obj)(hx:BE G x cs):FnS Tryz.prog 73 #[.agg cs.toArray] G (.int .i64 (errB x)):=by
 have h1:=form_ok x cs G hx
 have h2:=bytes_ok x cs G hx
 obtain⟨A,c,rfl,-⟩:=hx
 refine F73.fnS (by simp) (go_of ?_)
 unfold c73
 unfold cellH at h1 h2 ⊢
 intros;refine gr 0 0 ?_;refine sJ c73r0.eq_1 ?_
 intros;refine gr 3 5 ?_;refine sJ c73r1.eq_1 ?_
 refine(h1 _ _).mono ?_;rintro _ _ ⟨rfl,rfl⟩;refine sI ?_
 intros;refine gc ?_;refine sI ?_
 refine gb (fun k1=>?_) (fun k1=>?_)
 ·have k1:¬ Form x:=by simpa using k1
  intros;refine gr 0 0 ?_;refine sJ c73r2.eq_1 ?_
  intros;refine rV ?_;simp only[push_cast,Nat.reduceBEq]
  rw[errB_n k1]
 have k1:Form x:=by simpa using k1
 intros;refine gN ?_
 intros;refine gr 6 9 ?_;refine sJ c73r3.eq_1 ?_
 refine(ownL_d (by decide) (h2 k1) _ []).mono ?_
 rintro r h' ⟨G1,rfl,hg1,A2,c2,rfl,hc2,hm2,hA2⟩
 refine sI ?_
 intros;refine gc ?_;refine sI ?_
 refine gb (fun k2=>?_) (fun k2=>?_)
 ·have k2:¬ (bytesB x).length≤2048:=by have:=of_decide_eq_true k2;omega
  intros;refine gr 0 0 ?_;refine sJ c73r4.eq_1 ?_
  intros;refine rV ?_;simp only[push_cast,Nat.reduceBEq]
  rw[errB_2 k1 k2]
 ·have k2:(bytesB x).length≤2048:=by have:=of_decide_eq_false k2;omega
  intros;refine gN ?_
  intros;refine gr 0 0 ?_;refine sJ c73r5.eq_1 ?_
  intros;refine rV ?_;simp only[push_cast,Nat.reduceBEq]
  rw[errB_0 k1 k2]
theorem putB_e(x:Batch):(putB x).2=errB x:=by
 unfold putB
 split
 ·rename_i h;exact h.symm
 ·rfl
theorem BCheck_ok(x:Batch)(cs:List Value)(G:Nat→Option Obj)(hx:BE G x cs):FnS Tryz.prog 118 #[.agg cs.toArray] G (.int .i64 (errB x)):=by
 have h1:=BPut_ok x cs G hx
 obtain⟨A,c,rfl,-⟩:=hx
 refine F118.fnS (by simp) (go_of ?_)
 unfold c118
 unfold cellH at h1 ⊢
 intros;refine gr 0 0 ?_;refine sJ c118r0.eq_1 ?_
 intros;refine gr 5 10 ?_;refine sJ c118r1.eq_1 ?_
 refine(h1 _ []).mono ?_
 rintro r h' ⟨G1,L',rfl,hg1,u,rfl,ys,hys,rfl⟩
 refine sI ?_
 intros;refine gr 10 11 ?_;refine sJ c118r2.eq_1 ?_
 intros;refine rV ?_;simp only[push_cast,Nat.reduceBEq]
 rw[putB_e]
theorem Size_ok(x:Batch)(cs:List Value)(G:Nat→Option Obj)(hx:BE G x cs):FnS Tryz.prog 120 #[.agg cs.toArray] G (.int .i64 (sizeB x)):=by
 have h1:=BPut_ok x cs G hx
 obtain⟨A,c,rfl,-⟩:=hx
 refine F120.fnS (by simp) (go_of ?_)
 unfold c120
 unfold cellH at h1 ⊢
 intros;refine gr 0 0 ?_;refine sJ c120r0.eq_1 ?_
 intros;refine gr 4 10 ?_;refine sJ c120r1.eq_1 ?_
 refine(h1 _ []).mono ?_
 rintro r h' ⟨G1,L',rfl,hg1,u,rfl,ys,hys,rfl⟩
 refine sI ?_
 intro _
 intros;try refine go_seq ?_
 refine go_gx (gx_knowS (.head _)) ?_
 rintro h' ⟨rfl,A2,c2,rfl,hc2,hm2⟩
 intros;refine gr 10 12 ?_;refine sJ c120r2.eq_1 ?_
 intros;refine rV ?_;simp only[push_cast,Nat.reduceBEq]
 rfl
theorem F166:Fun Tryz.prog 166 10 v166 c166 o166:=Fun.mkA Tryz.func166 Tryz.ntmps166
theorem F191:Fun Tryz.prog 191 26 v191 c191 o191:=Fun.mkA Tryz.func191 Tryz.ntmps191
theorem F133:Fun Tryz.prog 133 26 v133 c133 o133:=Fun.mkA Tryz.func133 Tryz.ntmps133
theorem F192:Fun Tryz.prog 192 33 v192 c192 o192:=Fun.mkA Tryz.func192 Tryz.ntmps192
theorem F169:Fun Tryz.prog 169 19 v169 c169 o169:=Fun.mkA Tryz.func169 Tryz.ntmps169
theorem F79:Fun Tryz.prog 79 73 v79 c79 o79:=Fun.mkA Tryz.func79 Tryz.ntmps79
theorem beq_dec{α:Type}[BEq α][LawfulBEq α][DecidableEq α](a b:α):(a == b)=decide (a=b):=by by_cases h:a=b <;> simp[h]
theorem strAt_b{G:Nat→Option Obj}{v:Value}{l:List UInt8}(hl:SB G v l){h:H}(hG:h.G=G):StrAt h v ⟨l.toArray⟩:=by
 obtain⟨G',L,D⟩:=h
 dsimp only at hG
 subst hG
 obtain⟨A,c,rfl,hc,hm,hA⟩:=hl
 cases A with
 | none =>
  match l,hA with
  | [],_=>exact .inl ⟨c,rfl,rfl⟩
  | x :: xs,hA=>obtain⟨a,_,ha,_⟩:=hA 0 x rfl;cases ha
 | some a =>
  refine .inr ⟨a,c,rfl,fun j u hu=>?_⟩
  rw[byteCells_b]at hu
  simp[cellB]at hu
  obtain⟨x,hx,rfl⟩:=hu
  obtain⟨a',cs,ha,h1,h2,h3⟩:=hA j x hx
  cases ha
  have:=h3 0 (.int .u8 (x.toNat:Int)) (by rw[h2];rfl)
  simp at this
  exact .g this
theorem seq_b(a b:List UInt8):binV .eql (.string ⟨a.toArray⟩) (.string ⟨b.toArray⟩)=some (.bool (decide (a=b))):=by
 have h:binV .eql (.string ⟨a.toArray⟩) (.string ⟨b.toArray⟩)=some (.bool ((ByteArray.mk a.toArray).toList == (ByteArray.mk b.toArray).toList)):=rfl
 rw[h,ByteArray.toList_mk,ByteArray.toList_mk,beq_dec]
theorem BSame_ok(l m:List UInt8)(v u:Value)(G:Nat→Option Obj)(hl:SB G v l)(hm:SB G u m):FnS Tryz.prog 166 #[v,u] G (.bool (decide (l=m))):=by
 refine F166.fnS (by simp) (go_of ?_)
 unfold c166
 intros;refine gr 0 0 ?_;refine sJ c166r0.eq_1 ?_
 intros;refine gr 5 10 ?_;refine sJ c166r1.eq_1 ?_
 refine⟨_,strAt_b hl rfl,?_⟩
 refine sI ?_
 refine⟨_,strAt_b hm rfl,?_⟩
 refine sJ @seq_b ?_
 intros;refine rV ?_;simp only[push_cast,Nat.reduceBEq]
instance decRec (a b:Rec):Decidable (a=b):=decidable_of_iff (a.off=b.off∧a.key=b.key∧a.val=b.val∧a.dead=b.dead∧a.stamp=b.stamp) (by cases a;cases b;simp)
instance decBatch (a b:Batch):Decidable (a=b):=decidable_of_iff (a.base=b.base∧a.last=b.last∧a.src=b.src∧a.epoch=b.epoch∧a.pid=b.pid∧a.gen=b.gen∧a.seq=b.seq∧a.txn=b.txn∧a.ctl=b.ctl∧a.recs=b.recs) (by cases a;cases b;simp)
theorem toL_eq(a b:ByteArray):(a.toList == b.toList)=decide (a=b):=by
 rw[beq_dec,ByteArray.toList_eq,ByteArray.toList_eq]
 congr 1
 apply propext
 constructor
 ·intro h
  cases a;cases b
  simp at h
  rw[h]
 ·intro h;rw[h]
theorem eqCR(a b:Rec):eqC [0,2,2,1,0] (cellR a) (cellR b)=some (decide (a=b)):=by
 have h:(a=b)↔(a.off=b.off∧a.key=b.key∧a.val=b.val∧a.dead=b.dead∧a.stamp=b.stamp):=by cases a;cases b;simp
 simp only[cellR,eqC,if_true,Option.map_some,toL_eq,h]
 rw[beq_dec a.dead b.dead]
 simp only[Bool.and_true,Bool.decide_and]
theorem same_take{α:Type}[DecidableEq α]{a b:List α}{k:Nat}(hk:k=a.length)(hl:a.length=b.length)(h:a.take k=b.take k):a=b:=by
 subst hk
 rw[List.take_length,hl,List.take_length]at h
 exact h
theorem take_succ_eq{α:Type}{a b:List α}{k:Nat}{x y:α}(h:a.take k=b.take k)(hx:a[k]?=some x)(hy:b[k]?=some y)(hxy:x=y):a.take (k+1)=b.take (k+1):=by
 have h1:=List.getElem?_eq_some_iff.1 hx
 have h2:=List.getElem?_eq_some_iff.1 hy
 rw[List.take_succ_eq_append_getElem h1.1,List.take_succ_eq_append_getElem h2.1,h,h1.2,h2.2,hxy]
theorem Equal_ok(a b:List Rec)(v u:Value)(G:Nat→Option Obj)(ha:SlV G RR 5 v a)(hb:SlV G RR 5 u b):FnS Tryz.prog 191 #[v,u] G (.bool (decide (a=b))):=by
 obtain⟨A,c,rfl,hc,hm,hA⟩:=ha
 obtain⟨B,d,rfl,hd,hn,hB⟩:=hb
 refine F191.fnS (by simp) (go_of ?_)
 unfold c191
 intros;refine gr 0 0 ?_;refine sJ c191r0.eq_1 ?_
 intros;refine gr 6 10 ?_;refine sJ c191r1.eq_1 ?_
 intros;refine gc ?_;refine sI ?_
 refine gb (fun h1=>?_) (fun h1=>?_)
 ·have h1:=of_decide_eq_true h1
  intros;refine gr 0 0 ?_;refine sJ c191r2.eq_1 ?_
  intros;refine rV ?_;simp only[push_cast,Nat.reduceBEq]
  rw[decide_eq_false fun h=>h1 (by rw[h])]
 ·have h1:a.length=b.length:=by have:=of_decide_eq_false h1;omega
  intros;refine gN ?_
  intros;refine gr 11 12 ?_;refine sJ c191r3.eq_1 ?_
  (intros;try refine go_st ?_)
  refine go_loop (fun e h=>∃ k:Nat,(k≤a.length∧a.take k=b.take k)∧e 13=.int .i64 k∧e 12=.int .i64 a.length∧e 0=.slice A a.length c∧e 1=.slice B b.length d∧h=⟨G,[],[]⟩) (fun e h=>a.length - iv (e 13)) ?_ ?_
  ·exact⟨0,⟨Nat.zero_le _,rfl⟩,eE,eE,eE,eE,rfl⟩
  ·rintro e h ⟨k,⟨hk,htk⟩,e13,e12,e0,e1,rfl⟩
   refine go_keep [0,1,12,13] ?_
   refine sJ4 @e0 @e1 @e12 @e13 ?_
   intros;refine gr 0 0 ?_;refine sJ c191r4.eq_1 ?_
   intros;refine gc ?_;refine sI ?_
   refine gb (fun h2=>?_) (fun h2=>?_)
   ·have hkl:k < a.length:=by simpa using h2
    have hw3:=inc_i k c (by omega) hm
    obtain⟨x,hx⟩:∃ x,a[k]?=some x:=⟨a[k],List.getElem?_eq_getElem (by omega)⟩
    obtain⟨y,hy⟩:∃ y,b[k]?=some y:=⟨b[k],List.getElem?_eq_getElem (by omega)⟩
    intros;refine gN ?_
    intros;refine gr 15 16 ?_;refine sJ c191r5.eq_1 ?_
    (intros;try refine go_st ?_);refine go_q 16 24 (by decide) ?_;refine sJ c191r6.eq_1 ?_
    refine hA.y_ld hx rfl rfl ?_
    rintro a1 ha1 cs ⟨rfl,-⟩
    refine sI ?_
    refine hB.y_ld hy rfl rfl ?_
    rintro a2 ha2 cs ⟨rfl,-⟩
    refine sJ @eqCR ?_
    intros;refine gc ?_;refine sI ?_
    refine gb (fun h3=>?_) (fun h3=>?_)
    ·have h3:¬ x=y:=by simpa using h3
     intros;refine gr 0 0 ?_;refine sJ c191r7.eq_1 ?_
     intros;refine rV ?_;simp only[push_cast,Nat.reduceBEq]
     rw[decide_eq_false fun h=>h3 (by subst h;rw[hx]at hy;cases hy;rfl)]
    ·have h3:x=y:=by simpa using h3
     intros;refine gN ?_
     intros;refine gr 25 26 ?_;refine sJ2 c191r8.eq_1 @hw3 ?_
     (intros;try refine go_st ?_)
     refine go_l ⟨⟨k+1,⟨by omega,take_succ_eq htk hx hy h3⟩,eE,eE,eE,eE,rfl⟩,?_⟩
     refine sI ?_
     omega
   ·have hkl:k=a.length:=by simp at h2;omega
    refine go_exit ?_
    refine sI ?_
    intros;refine gr 0 0 ?_;refine sJ c191r9.eq_1 ?_
    intros;refine rV ?_;simp only[push_cast,Nat.reduceBEq]
    rw[decide_eq_true (same_take hkl h1 htk)]
theorem SameRecs_ok(a b:List Rec)(v u:Value)(G:Nat→Option Obj)(ha:SlV G RR 5 v a)(hb:SlV G RR 5 u b):FnS Tryz.prog 133 #[v,u] G (.bool (decide (a=b))):=by
 obtain⟨A,c,rfl,hc,hm,hA⟩:=ha
 obtain⟨B,d,rfl,hd,hn,hB⟩:=hb
 refine F133.fnS (by simp) (go_of ?_)
 unfold c133
 intros;refine gr 0 0 ?_;refine sJ c133r0.eq_1 ?_
 intros;refine gr 6 10 ?_;refine sJ c133r1.eq_1 ?_
 intros;refine gc ?_;refine sI ?_
 refine gb (fun h1=>?_) (fun h1=>?_)
 ·have h1:=of_decide_eq_true h1
  intros;refine gr 0 0 ?_;refine sJ c133r2.eq_1 ?_
  intros;refine rV ?_;simp only[push_cast,Nat.reduceBEq]
  rw[decide_eq_false fun h=>h1 (by rw[h])]
 ·have h1:a.length=b.length:=by have:=of_decide_eq_false h1;omega
  intros;refine gN ?_
  intros;refine gr 11 12 ?_;refine sJ c133r3.eq_1 ?_
  (intros;try refine go_st ?_)
  refine go_loop (fun e h=>∃ k:Nat,(k≤a.length∧a.take k=b.take k)∧e 13=.int .i64 k∧e 12=.int .i64 a.length∧e 0=.slice A a.length c∧e 1=.slice B b.length d∧h=⟨G,[],[]⟩) (fun e h=>a.length - iv (e 13)) ?_ ?_
  ·exact⟨0,⟨Nat.zero_le _,rfl⟩,eE,eE,eE,eE,rfl⟩
  ·rintro e h ⟨k,⟨hk,htk⟩,e13,e12,e0,e1,rfl⟩
   refine go_keep [0,1,12,13] ?_
   refine sJ4 @e0 @e1 @e12 @e13 ?_
   intros;refine gr 0 0 ?_;refine sJ c133r4.eq_1 ?_
   intros;refine gc ?_;refine sI ?_
   refine gb (fun h2=>?_) (fun h2=>?_)
   ·have hkl:k < a.length:=by simpa using h2
    have hw3:=inc_i k c (by omega) hm
    obtain⟨x,hx⟩:∃ x,a[k]?=some x:=⟨a[k],List.getElem?_eq_getElem (by omega)⟩
    obtain⟨y,hy⟩:∃ y,b[k]?=some y:=⟨b[k],List.getElem?_eq_getElem (by omega)⟩
    intros;refine gN ?_
    intros;refine gr 15 16 ?_;refine sJ c133r5.eq_1 ?_
    (intros;try refine go_st ?_);refine go_q 16 24 (by decide) ?_;refine sJ c133r6.eq_1 ?_
    refine hA.y_ld hx rfl rfl ?_
    rintro a1 ha1 cs ⟨rfl,-⟩
    refine sI ?_
    refine hB.y_ld hy rfl rfl ?_
    rintro a2 ha2 cs ⟨rfl,-⟩
    refine sJ @eqCR ?_
    intros;refine gc ?_;refine sI ?_
    refine gb (fun h3=>?_) (fun h3=>?_)
    ·have h3:¬ x=y:=by simpa using h3
     intros;refine gr 0 0 ?_;refine sJ c133r7.eq_1 ?_
     intros;refine rV ?_;simp only[push_cast,Nat.reduceBEq]
     rw[decide_eq_false fun h=>h3 (by subst h;rw[hx]at hy;cases hy;rfl)]
    ·have h3:x=y:=by simpa using h3
     intros;refine gN ?_
     intros;refine gr 25 26 ?_;refine sJ2 c133r8.eq_1 @hw3 ?_
     (intros;try refine go_st ?_)
     refine go_l ⟨⟨k+1,⟨by omega,take_succ_eq htk hx hy h3⟩,eE,eE,eE,eE,rfl⟩,?_⟩
     refine sI ?_
     omega
   ·have hkl:k=a.length:=by simp at h2;omega
    refine go_exit ?_
    refine sI ?_
    intros;refine gr 0 0 ?_;refine sJ c133r9.eq_1 ?_
    intros;refine rV ?_;simp only[push_cast,Nat.reduceBEq]
    rw[decide_eq_true (same_take hkl h1 htk)]
theorem BE.recs{G:Nat→Option Obj}{x:Batch}{cs:List Value}(h:BE G x cs):∃ A c,cs=cellH x (.slice A x.recs.length c)∧SlV G RR 5 (.slice A x.recs.length c) x.recs:=by
 obtain⟨A,c,h1,⟨h2,h3,h4⟩,-⟩:=h
 exact⟨A,c,h1,A,c,rfl,h2,h3,h4⟩
theorem sameB(x y:Batch):decide (x=y)=(decide (x.base=y.base) && decide (x.last=y.last) && decide (x.src=y.src) && decide (x.epoch=y.epoch) && decide (x.pid=y.pid) && decide (x.gen=y.gen) && decide (x.seq=y.seq) && (x.txn == y.txn) && decide (x.ctl=y.ctl) && decide (x.recs=y.recs)):=by
 have h:(x=y)↔(x.base=y.base∧x.last=y.last∧x.src=y.src∧x.epoch=y.epoch∧x.pid=y.pid∧x.gen=y.gen∧x.seq=y.seq∧x.txn=y.txn∧x.ctl=y.ctl∧x.recs=y.recs):=by cases x;cases y;simp
 simp only[h,Bool.decide_and,beq_dec,Bool.and_assoc]
theorem RSame_ok(x y:Batch)(cs ds:List Value)(G:Nat→Option Obj)(hx:BE G x cs)(hy:BE G y ds):FnS Tryz.prog 79 #[.agg cs.toArray,.agg ds.toArray] G (.bool (decide (x=y))):=by
 obtain⟨A,c,rfl,hA⟩:=hx.recs
 obtain⟨B,d,rfl,hB⟩:=hy.recs
 refine F79.fnS (by simp) (go_of ?_)
 unfold c79 cellH
 intros;refine gr 0 0 ?_;refine sJ c79r0.eq_1 ?_
 intros;refine gr 6 73 ?_;refine sJ c79r1.eq_1 ?_
 refine gd (fun k1=>?_) (fun k1=>?_)
 rotate_left
 ·
  refine sI ?_
  intros;refine rV ?_;simp only[push_cast,Nat.reduceBEq]
  rw[decide_eq_false fun h=>by subst h;simp at k1]
 refine sI ?_
 refine gd (fun k2=>?_) (fun k2=>?_)
 rotate_left
 ·
  refine sI ?_
  intros;refine rV ?_;simp only[push_cast,Nat.reduceBEq]
  rw[decide_eq_false fun h=>by subst h;simp at k2]
 refine sI ?_
 refine gd (fun k3=>?_) (fun k3=>?_)
 rotate_left
 ·
  refine sI ?_
  intros;refine rV ?_;simp only[push_cast,Nat.reduceBEq]
  rw[decide_eq_false fun h=>by subst h;simp at k3]
 refine sI ?_
 refine gd (fun k4=>?_) (fun k4=>?_)
 rotate_left
 ·
  refine sI ?_
  intros;refine rV ?_;simp only[push_cast,Nat.reduceBEq]
  rw[decide_eq_false fun h=>by subst h;simp at k4]
 refine sI ?_
 refine gd (fun k5=>?_) (fun k5=>?_)
 rotate_left
 ·
  refine sI ?_
  intros;refine rV ?_;simp only[push_cast,Nat.reduceBEq]
  rw[decide_eq_false fun h=>by subst h;simp at k5]
 refine sI ?_
 refine gd (fun k6=>?_) (fun k6=>?_)
 rotate_left
 ·
  refine sI ?_
  intros;refine rV ?_;simp only[push_cast,Nat.reduceBEq]
  rw[decide_eq_false fun h=>by subst h;simp at k6]
 refine sI ?_
 refine gd (fun k7=>?_) (fun k7=>?_)
 rotate_left
 ·
  refine sI ?_
  intros;refine rV ?_;simp only[push_cast,Nat.reduceBEq]
  rw[decide_eq_false fun h=>by subst h;simp at k7]
 refine sI ?_
 refine gd (fun k8=>?_) (fun k8=>?_)
 rotate_left
 ·
  refine sI ?_
  intros;refine rV ?_;simp only[push_cast,Nat.reduceBEq]
  rw[decide_eq_false fun h=>by subst h;simp at k8]
 refine sI ?_
 refine gd (fun k9=>?_) (fun k9=>?_)
 rotate_left
 ·
  refine sI ?_
  intros;refine rV ?_;simp only[push_cast,Nat.reduceBEq]
  rw[decide_eq_false fun h=>by subst h;simp at k9]
 refine sI ?_
 refine(SameRecs_ok _ _ _ _ _ hA hB _ _).mono ?_;rintro _ _ ⟨rfl,rfl⟩;refine sI ?_
 intros;refine rV ?_;simp only[push_cast,Nat.reduceBEq]
 rw[sameB,k1,k2,k3,k4,k5,k6,k7,k8,k9]
 rfl
theorem head_ok(x:Batch)(cs:List Value)(G:Nat→Option Obj)(hx:BE G x cs):
  FnS Tryz.prog 192 #[.agg cs.toArray] G (.agg #[.int .i64 x.base,.int .i64 x.last,.int .i64 x.src,.int .i64 x.epoch,.int .i64 x.pid,.int .i64 x.gen,.int .i64 x.seq,.int .i64 x.ctl,.int .i64 (if x.txn=true then 1 else 0)]):=by
 obtain⟨A,c,rfl,hA⟩:=hx.recs
 refine F192.fnS (by simp) (go_of ?_)
 unfold c192 cellH
 intros;refine gr 0 0 ?_;refine sJ c192r0.eq_1 ?_
 intros;refine gr 5 7 ?_;refine sJ c192r1.eq_1 ?_
 intros;try refine go_seq ?_
 refine go_cut (fun e h=>e 3=.int .i64 (if x.txn=true then IntKind.i64.wrap (IntKind.i64.wrap (x.ctl * 2)+1)else IntKind.i64.wrap (x.ctl * 2))∧h=⟨G,[.reg 2 [.int .i64 0,.int .i64 0,.int .i64 0,.int .i64 0,.int .i64 0,.int .i64 0,.int .i64 0,.int .i64 0,.int .i64 0],.reg 1 [.int .i64 x.base,.int .i64 x.last,.int .i64 x.src,.int .i64 x.epoch,.int .i64 x.pid,.int .i64 x.gen,.int .i64 x.seq,.bool x.txn,.int .i64 x.ctl,.slice A x.recs.length c]],[]⟩) ?_ ?_
 ·intros;refine gr 0 0 ?_;refine sJ c192r2.eq_1 ?_
  intros;refine gc ?_;refine sI ?_
  refine gb (fun k1=>?_) (fun k1=>?_)
  ·intros;refine gr 9 11 ?_;refine sJ c192r3.eq_1 ?_
   (intros;try refine go_st ?_)
   refine go_l ⟨?_,rfl⟩
   rw[if_pos k1]
   (refine sI ?_;try with_reducible exact True.intro)
  ·(intros;try refine go_st ?_)
   refine go_l ⟨?_,rfl⟩
   rw[if_neg (by rw[k1];simp)]
   (refine sI ?_;try with_reducible exact True.intro)
 rintro e h ⟨e3,rfl⟩
 refine go_keep [3] ?_
 refine sJ @e3 ?_
 have hw:IntKind.i64.wrap ((if x.txn=true then IntKind.i64.wrap (IntKind.i64.wrap (x.ctl * 2)+1)else IntKind.i64.wrap (x.ctl * 2)) - IntKind.i64.wrap (x.ctl * 2))=(if x.txn=true then 1 else 0):=by
  simp only[IntKind.wrap_i64]
  split <;> omega
 intros;refine gr 12 33 ?_;(try simp -implicitDefEqProofs only[kR_e,kQ_e,push_cast,Nat.reduceBEq,Nat.reduceAdd,Nat.reduceSub,Nat.reduceMul,Nat.reduceLT,Nat.reduceLeDiff,Nat.reduceEqDiff,reduceIte,Bool.not_true,Bool.not_false,true_and,and_true,Option.map_some,Option.bind_some,Int.toNat_natCast,c192r4,hw])
 intros;refine rV ?_;simp only[push_cast,Nat.reduceBEq]
theorem Same_ok(x y:Batch)(cs ds:List Value)(G:Nat→Option Obj)(hx:BE G x cs)(hy:BE G y ds):FnS Tryz.prog 169 #[.agg cs.toArray,.agg ds.toArray] G (.bool (decide (x=y))):=by
 have hhx:=head_ok x cs G hx
 have hhy:=head_ok y ds G hy
 obtain⟨A,c,rfl,hA⟩:=hx.recs
 obtain⟨B,d,rfl,hB⟩:=hy.recs
 refine F169.fnS (by simp) (go_of ?_)
 unfold c169
 unfold cellH at hhx hhy ⊢
 intros;refine gr 0 0 ?_;refine sJ c169r0.eq_1 ?_
 intros;refine gr 7 11 ?_;refine sJ c169r1.eq_1 ?_
 refine(Equal_ok _ _ _ _ _ hA hB _ _).mono ?_;rintro _ _ ⟨rfl,rfl⟩;refine sI ?_
 intros;refine gc ?_;refine sI ?_
 refine gb (fun k1=>?_) (fun k1=>?_)
 ·have k1:¬ x.recs=y.recs:=by simpa using k1
  intros;refine gr 0 0 ?_;refine sJ c169r2.eq_1 ?_
  intros;refine rV ?_;simp only[push_cast,Nat.reduceBEq]
  rw[decide_eq_false fun h=>k1 (by rw[h])]
 have k1:x.recs=y.recs:=by simpa using k1
 intros;refine gN ?_
 intros;refine gr 0 0 ?_;refine sJ c169r3.eq_1 ?_
 (intros;try refine go_st ?_);refine go_x _ (List.Sublist.refl _) (by decide) ?_;refine sJ c169r4.eq_1 ?_
 refine .inl ⟨_,_,rfl,?_⟩
 refine(hhx _ _).mono ?_;rintro _ _ ⟨rfl,rfl⟩;refine sI ?_
 refine .inl ⟨_,_,rfl,?_⟩
 refine(hhy _ _).mono ?_;rintro _ _ ⟨rfl,rfl⟩;refine sI ?_
 intros;refine rV ?_;simp only[push_cast,Nat.reduceBEq]
 rw[sameB,k1]
 cases x.txn <;> cases y.txn <;> simp[Bool.and_assoc]
theorem F64:Fun Tryz.prog 64 29 v64 c64 o64:=Fun.mkA Tryz.func64 Tryz.ntmps64
theorem Few_ok(x:Batch)(cs:List Value)(G:Nat→Option Obj)(hx:BE G x cs):FnE Tryz.prog 64 #[.agg cs.toArray] G (fun r=>∃ b,r=.bool b∧(b=true→x.recs.length≤100)):=by
 obtain⟨A,c,rfl,⟨hc,hm,hA⟩,-⟩:=hx
 refine F64.fnE (by simp) (go_of ?_)
 unfold c64 cellH
 intros;refine gr 0 0 ?_;refine sJ c64r0.eq_1 ?_
 intros;refine gr 0 0 ?_;refine sJ c64r1.eq_1 ?_
 intros;refine gr 0 0 ?_;refine sJ c64r2.eq_1 ?_
 (intros;try refine go_st ?_)
 refine go_loop (fun e h=>∃ (k:Nat) (n:Int),(k≤x.recs.length)∧e 9=.int .i64 k∧e 8=.int .i64 x.recs.length∧e 7=.slice A x.recs.length c∧e 3=.int .i64 n∧h.G=G∧h.D=[]∧[.reg 1 [.int .i64 x.base,.int .i64 x.last,.int .i64 x.src,.int .i64 x.epoch,.int .i64 x.pid,.int .i64 x.gen,.int .i64 x.seq,.bool x.txn,.int .i64 x.ctl,.slice A x.recs.length c]].Sublist h.L) (fun e h=>x.recs.length - iv (e 9)) ?_ ?_
 ·exact⟨0,0,Nat.zero_le _,eE,eE,eE,eE,rfl,rfl,List.Sublist.refl _⟩
 ·rintro e ⟨G',L,D⟩ ⟨k,n,hk,e9,e8,e7,e3,hG,hD,hL⟩
  dsimp only at hG hD hL
  subst hG hD
  refine go_ghost (ghost_sub hL) ?_
  refine go_keep [3,7,8,9] ?_
  refine sJ4 @e3 @e7 @e8 @e9 ?_
  intros;refine gr 0 0 ?_;refine sJ c64r3.eq_1 ?_
  intros;refine gc ?_;refine sI ?_
  refine gb (fun ht=>?_) (fun ht=>?_)
  ·have hkl:k < x.recs.length:=by simpa using ht
   have hw3:=inc_i k c (by omega) hm
   obtain⟨r,hr⟩:∃ r,x.recs[k]?=some r:=⟨x.recs[k],List.getElem?_eq_getElem (by omega)⟩
   intros;refine gN ?_
   intros;refine gr 11 13 ?_;refine sJ c64r4.eq_1 ?_
   refine hA.x_ld hr rfl rfl ?_
   rintro a1 ha1 cs ⟨rfl,⟨j1,j2⟩,j3,j4⟩
   unfold cellR
   refine sI ?_
   intros;refine gr 13 22 ?_;refine sJ c64r5.eq_1 ?_
   generalize IntKind.i64.wrap _=m2
   intros;refine gr 22 23 ?_;refine sJ c64r6.eq_1 ?_
   intros;refine gc ?_;refine sI ?_
   refine gb (fun h1=>?_) (fun h1=>?_)
   ·intros;refine gr 0 0 ?_;refine sJ c64r7.eq_1 ?_
    intros;refine rV ?_;simp only[push_cast,Nat.reduceBEq]
    exact⟨false,rfl,fun h=>by cases h⟩
   ·have h1:=of_decide_eq_false h1
    intros;refine gN ?_
    intros;refine gr 24 25 ?_;refine sJ2 c64r8.eq_1 @hw3 ?_
    (intros;try refine go_st ?_)
    refine go_l ⟨⟨k+1,m2,by omega,eE,eE,eE,eE,rfl,rfl,.cons _ (List.Sublist.refl _)⟩,?_⟩
    refine sI ?_
    omega
  ·refine go_exit ?_
   refine sI ?_
   intros;refine gr 26 29 ?_;refine sJ c64r9.eq_1 ?_
   intros;refine rV ?_;simp only[push_cast,Nat.reduceBEq]
   exact⟨_,rfl,fun h=>by have:=of_decide_eq_true h;omega⟩
instance decI64 (n:Int):Decidable (I64 n):=by
 unfold I64
 infer_instance
end Go.Proofs.YtpmofpekcbghnaaGreat

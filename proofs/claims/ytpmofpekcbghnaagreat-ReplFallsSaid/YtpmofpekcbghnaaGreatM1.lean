/- Parts of a proof, 17 texts in one file. No condition. -/
import Derived.RangeFuncLeaves
import Derived.OrdersIn
import Derived.Deep.Quiet
import Derived.WalkKit
import Derived.Deep.AppendSrc
import Derived.ChangeKeysEq
import Derived.Great.BuildSlice
import Derived.Laws.BytesString
import Derived.Lib.AppendZeros
import Derived.StillTail
import Derived.OrdersHeld
import Derived.Scope
import Derived.RangeFuncRecord
set_option linter.unusedSimpArgs false
set_option linter.unusedVariables false
namespace Go.Kx
open Go Go.RowKit
open List (getElem?_eq_getElem mem_of_getElem? length_append append_nil take_length)
theorem KJ{α}{l:List α}:List.Sublist l l:=.refl l
theorem KL{α}{l:List α}:List.Sublist [] l:=List.nil_sublist l
theorem KM{p:Prop}[Decidable p](h:decide p=true):p:=of_decide_eq_true h
theorem KN{p:Prop}[Decidable p](h:decide p=false):¬p:=of_decide_eq_false h
theorem KO{α β}{p:α→β→Prop}(a:α)(b:β)(h:p a b):p a b:=h
abbrev KI:=Option Nat
abbrev KG:=List Int
abbrev KF:=List Nat
abbrev KD:=List UInt8
abbrev Kz:=KF × KF
abbrev Ky:=Option Addr
abbrev Kt:=List Value
abbrev Ks:=Nat→Option Obj
abbrev Env:=Nat→Value
def Env.set(e:Env)(d:Nat)(v:Value):Env:=fun i=>if i=d then v else e i
inductive Item where
 | reg (s:Nat) (cs:Kt)
 | blk (b:Nat) (cs:Kt)
 | row (v:Value) (e:TypeId) (sz n:Nat) (xs:Kt)
 | obj (b:Nat) (o:Obj)
structure H where
 G:Ks
 L:List Item
 D:KF
def fh:Value→KI
 | .slice (some a) _ c=>if c=0 then none else some a.block
 | _=>none
def sA(w:World)(v:Value)(e:TypeId)(sz n:Nat)(xs:Kt):Prop :=
 xs.length=n * sz∧((∃ A,v=.slice A 0 0∧n=0) ∨
  ∃ g cap cur,v=.slice (some ⟨g,0,none⟩) n cap∧0 < cap∧w.heap[g]?=some (.cells cur e (0,0))∧n≤cap∧cap≤maxLen∧cur.size=cap * sz∧cur.toList.take (n * sz)=xs)
def Item.block(β:Nat→Nat):Item→KI
 | .reg s _=>some (β s)
 | .blk b _=>some b
 | .row v _ _ _ _=>fh v
 | .obj b _=>some b
def Item.ok(β:Nat→Nat)(w:World):Item→Prop
 | .reg s cs=>∃ t,w.heap[β s]?=some (.cells cs.toArray t (0,0))
 | .blk b cs=>∃ t,w.heap[b]?=some (.cells cs.toArray t (0,0))
 | .row v e sz n xs=>sA w v e sz n xs
 | .obj b o=>w.heap[b]?=some o
def dom(β:Nat→Nat)(L:List Item):KF:=L.filterMap (Item.block β)
structure Sat (β:Nat→Nat) (h:H) (w:World):Prop where
 g:∀ b o,h.G b=some o→w.heap[b]?=some o
 l:∀ it∈h.L,it.ok β w
 nd:(dom β h.L++h.D).Nodup
 df:∀ b∈dom β h.L++h.D,h.G b=none
 d:∀ b∈h.D,w.heap[b]?=some (.deferred (some []))
structure Step (β:Nat→Nat) (h:H) (w:World) (β':Nat→Nat) (h':H) (w':World):Prop where
 os:w'.os=w.os
 tape:w'.tape=w.tape
 output:w'.output=w.output
 size:w.heap.size≤w'.heap.size
 old:∀ b,b < w.heap.size→b∉dom β h.L→w'.heap[b]?=w.heap[b]?
 gm:∀ b o,h.G b=some o→h'.G b=some o
 gn:∀ b,h.G b=none→h'.G b≠none→w.heap.size≤b∨b∈dom β h.L
 ln:∀ b∈dom β' h'.L,b∈dom β h.L∨w.heap.size≤b
 dn:∃ l,h'.D=l++h.D∧∀ b∈l,w.heap.size≤b
theorem Step.refl(β:Nat→Nat)(h:H)(w:World):Step β h w β h w :=
 ⟨rfl,rfl,rfl,Nat.le_refl _,fun _ _ _=>rfl,KO,fun _ h h'=>absurd h h',fun _ h=>.inl h,[],rfl,by simp⟩
theorem Step.trans{β h w β1 h1 w1 β2 h2 w2}(s:Step β h w β1 h1 w1)(t:Step β1 h1 w1 β2 h2 w2):Step β h w β2 h2 w2 where
 os:=t.os.trans s.os
 tape:=t.tape.trans s.tape
 output:=t.output.trans s.output
 size:=Nat.le_trans s.size t.size
 old b hb hn:=(t.old b (Nat.lt_of_lt_of_le hb s.size) (fun hm=>by rcases s.ln b hm with h | h;exact hn h;omega)).trans (s.old b hb hn)
 gm b o ho:=t.gm b o (s.gm b o ho)
 gn b h0 h2:=by
   have:=s.size;cases h1b:h1.G b with
   | none => rcases t.gn b h1b h2 with h | h
             · left;omega
             · exact(s.ln b h).symm
   | some o=>exact s.gn b h0 (by rw[h1b];simp)
 ln b hb:=by
   have:=s.size;rcases t.ln b hb with h | h
   · exact s.ln b h
   · right;omega
 dn:=by
   obtain⟨l,h1,h2⟩:=s.dn;obtain⟨l',h1',h2'⟩:=t.dn;refine⟨l'++l,by rw[h1',h1,List.append_assoc],fun b hb=>?_⟩;have:=s.size;rcases List.mem_append.1 hb with h | h
   · have:=h2' b h;omega
   · exact h2 b h
theorem Item.ok_lt{β:Nat→Nat}{w:World}{it:Item}(h:it.ok β w){b:Nat}(hb:it.block β=some b):b < w.heap.size:=by
 cases it with
 | reg s cs=>obtain⟨t,ht⟩:=h;simp[Item.block]at hb;subst hb;exact(Array.getElem?_eq_some_iff.1 ht).1
 | blk b' cs=>obtain⟨t,ht⟩:=h;simp[Item.block]at hb;subst hb;exact(Array.getElem?_eq_some_iff.1 ht).1
 | obj b' o=>simp[Item.block]at hb;subst hb;exact(Array.getElem?_eq_some_iff.1 h).1
 | row v e sz n xs =>
  rcases h.2 with⟨A,rfl,_⟩ | ⟨g,cap,cur,rfl,hc,hg,_⟩
  ·cases A <;> simp[Item.block,fh]at hb
  ·have hc':¬ cap=0:=by omega
   simp[Item.block,fh,hc']at hb;subst hb;exact(Array.getElem?_eq_some_iff.1 hg).1
theorem Sat.dom_lt{β h w}(s:Sat β h w){b:Nat}(hb:b∈dom β h.L):b < w.heap.size:=by
 obtain⟨it,hit,hb⟩:=List.mem_filterMap.1 hb;exact Item.ok_lt (s.l it hit) hb
theorem Sat.d_lt{β h w}(s:Sat β h w){b:Nat}(hb:b∈h.D):b < w.heap.size:=(Array.getElem?_eq_some_iff.1 (s.d b hb)).1
theorem Sat.g_lt{β h w}(s:Sat β h w){b:Nat}{o:Obj}(hb:h.G b=some o):b < w.heap.size:=(Array.getElem?_eq_some_iff.1 (s.g b o hb)).1
theorem Item.ok_of{β β':Nat→Nat}{w w':World}{it:Item}(h:it.ok β w)(hb:∀ b,it.block β=some b→w'.heap[b]?=w.heap[b]?)(hβ:it.block β'=it.block β):it.ok β' w':=by
 cases it with
 | reg s cs=>obtain⟨t,ht⟩:=h;simp[Item.block]at hb hβ;exact⟨t,by rw[hβ,hb];exact ht⟩
 | blk b' cs=>obtain⟨t,ht⟩:=h;simp[Item.block]at hb;exact⟨t,by rw[hb];exact ht⟩
 | obj b' o=>simp[Item.block]at hb;show w'.heap[b']?=some o;rw[hb];exact h
 | row v e sz n xs =>
  refine⟨h.1,?_⟩;rcases h.2 with hn | ⟨g,cap,cur,rfl,hc,hgg,rest⟩
  ·exact .inl hn
  ·have hc':¬ cap=0:=by omega
   exact .inr ⟨g,cap,cur,rfl,hc,by rw[hb g (by simp[Item.block,fh,hc'])];exact hgg,rest⟩
def Fr(r:KI):Fence:={ Fence.wide with round:=r }
structure Rel (r:KI) (N:Nat) (rs vs:KF) (β:Nat→Nat) (a:Act) (e:Env) (h:H):Prop where
 size:a.tmps.size=N
 env:∀ i,i < N→i∉vs→a.tmps.getD i undef=e i
 reg:∀ s cs,Item.reg s cs∈h.L→(s∈rs∧s∈vs)∧s < N∧a.tmps.getD s undef=.pointer (some ⟨β s,0,none⟩)
 dfr:a.defers=if r.isSome then[]else h.D.map (fun b=>{ target:=.collected b,args:=#[] })
def fw(r:KI)(N:Nat)(rs vs:KF)(β:Nat→Nat)(h:H)(w:World)(Q:Exit→Env→H→Prop):Exit→Act→World→Prop :=
 fun x a' w'=>∃ β' e' h',Rel r N rs vs β' a' e' h'∧Sat β' h' w'∧Step β h w β' h' w'∧Q x e' h'
def wpH(r:KI)(P:Program)(N:Nat)(rs vs:KF)(c:Code)(Q:Exit→Env→H→Prop)(e:Env)(h:H):Prop :=
 ∀ β a w,Rel r N rs vs β a e h→Sat β h w→c.wpIn (Fr r) 0 P (fw r N rs vs β h w Q) a w
def fl(K:Env→H→Prop)(Q:Exit→Env→H→Prop):Exit→Env→H→Prop
 | .normal,e,h=>K e h
 | x,e,h=>Q x e h
def Ez(id:Nat)(Q:Exit→Env→H→Prop):Exit→Env→H→Prop
 | .exit id',e,h=>if id'=id then Q .normal e h else Q (.exit id') e h
 | x,e,h=>Q x e h
section control
variable {r:KI} {P:Program} {N:Nat} {rs vs:KF} {Q:Exit→Env→H→Prop} {e:Env} {h:H}
theorem pE{c:Code}{Q':Exit→Env→H→Prop}(hc:wpH r P N rs vs c Q e h)(hq:∀ x e h,Q x e h→Q' x e h):wpH r P N rs vs c Q' e h :=
 fun β a w hr hs=>wpIn_mono (hc β a w hr hs) fun _ _ _ ⟨β',e',h',rr,s,st,q⟩=>⟨β',e',h',rr,s,st,hq _ _ _ q⟩
theorem zS(hq:Q .normal e h):wpH r P N rs vs .skip Q e h:=fun β _ _ hr hs=>wpIn_skip ⟨β,e,h,hr,hs,.refl _ _ _,hq⟩
theorem wz{l:Nat}(hq:Q .normal e h):wpH r P N rs vs (.label l) Q e h:=fun β _ _ hr hs=>wpIn_label ⟨β,e,h,hr,hs,.refl _ _ _,hq⟩
theorem zt{id:Nat}(hq:Q (.exit id) e h):wpH r P N rs vs (.exit id) Q e h:=fun β _ _ hr hs=>wpIn_exit ⟨β,e,h,hr,hs,.refl _ _ _,hq⟩
theorem CQ(hq:Q .ret e h):wpH r P N rs vs .ret Q e h:=fun β _ _ hr hs=>wpIn_ret ⟨β,e,h,hr,hs,.refl _ _ _,hq⟩
theorem Cx{x y:Code}(hx:wpH r P N rs vs x (fl (wpH r P N rs vs y Q) Q) e h):wpH r P N rs vs (.seq x y) Q e h:=by
 intro β a w hr hs;refine wpIn_seq (wpIn_mono (hx β a w hr hs) ?_);rintro ex a' w' ⟨β',e',h',rr,s,st,q⟩;cases ex with
 | normal =>
  refine wpIn_mono (q β' a' w' rr s) ?_;rintro ex2 a2 w2 ⟨β2,e2,h2,r2,s2,st2,q2⟩;exact⟨β2,e2,h2,r2,s2,st.trans st2,q2⟩
 | _=>exact⟨β',e',h',rr,s,st,q⟩
theorem yq{id:Nat}{c:Code}(hc:wpH r P N rs vs c (Ez id Q) e h):wpH r P N rs vs (.block id c) Q e h:=by
 intro β a w hr hs;refine wpIn_block (wpIn_mono (hc β a w hr hs) ?_);rintro ex a' w' ⟨β',e',h',rr,s,st,q⟩;cases ex with
 | exit id' =>
  simp only[Ez]at q;simp only[Exit.inBlock];split at q
  ·rename_i hid;rw[if_pos hid];exact⟨β',e',h',rr,s,st,q⟩
  ·rename_i hid;rw[if_neg hid];exact⟨β',e',h',rr,s,st,q⟩
 | _=>exact⟨β',e',h',rr,s,st,q⟩
theorem kH(p:Nat→Prop)(hp:∃ n,p n):∃ n,p n∧∀ m,m < n→¬ p m:=by
 obtain⟨n,hn⟩:=hp
 induction n using Nat.strongRecOn with
 | _ n ih =>
  by_cases hx:∃ m,m < n∧p m
  ·obtain⟨m,hm,hpm⟩:=hx;exact ih m hm hpm
  ·exact⟨n,hn,fun m hm hpm=>hx ⟨m,hm,hpm⟩⟩
theorem za{c:Code}(I:Env→H→Prop)(μ:Env→H→Nat)(h0:I e h)
  (round:∀ e h,I e h→wpH r P N rs vs c (fl (fun e' h'=>I e' h'∧μ e' h' < μ e h) Q) e h):wpH r P N rs vs (.loop c) Q e h:=by
 intro β a w hr hs
 let J:Nat→Act→World→Prop:=fun n a' w'=>∃ β' e' h',Rel r N rs vs β' a' e' h'∧Sat β' h' w'∧Step β h w β' h' w'∧I e' h'∧μ e' h'=n
 let m:Act→World→Nat:=fun a' w'=>open Classical in if hx:∃ n,J n a' w' then Classical.choose (kH _ hx)else 0
 have hm:∀ a' w' n,J n a' w'→J (m a' w') a' w'∧m a' w'≤n:=by
  intro a' w' n hj;have hx:∃ n,J n a' w':=⟨n,hj⟩;have hc:=Classical.choose_spec (kH _ hx);have he:m a' w'=Classical.choose (kH _ hx):=by simp only[m];rw[dif_pos hx]
  rw[he];refine⟨hc.1,?_⟩;rcases Nat.lt_or_ge n (Classical.choose (kH _ hx))with hl | hl
  ·exact absurd hj (hc.2 n hl)
  ·exact hl
 refine wpIn_loop (fun a' w'=>∃ n,J n a' w') m ⟨_,β,e,h,hr,hs,.refl _ _ _,h0,rfl⟩ ?_;rintro a' w' ⟨n,hj⟩;obtain⟨⟨β',e',h',rr,s,st,hi,hn⟩,_⟩:=hm a' w' n hj;refine wpIn_mono (round e' h' hi β' a' w' rr s) ?_;rintro ex a2 w2 ⟨β2,e2,h2,r2,s2,st2,q2⟩;cases ex with
 | normal =>
  have hj2:J (μ e2 h2) a2 w2:=⟨β2,e2,h2,r2,s2,st.trans st2,q2.1,rfl⟩;exact⟨⟨_,hj2⟩,Nat.lt_of_le_of_lt (hm _ _ _ hj2).2 (by rw[← hn];exact q2.2)⟩
 | _=>exact⟨β2,e2,h2,r2,s2,st.trans st2,q2⟩
end control
inductive O where
 | t (n:Nat)
 | i (n:Int)
 | b (x:Bool)
 | v (x:Value)
def ev(e:Env):O→Value
 | .t n=>e n
 | .i n=>.int .i64 n
 | .b x=>.bool x
 | .v x=>x
def slO(vs:KF)(N:Nat):Operand→Option O
 | .tmp n=>if n < N∧vs.contains n=false then some (.t n)else none
 | .const (.int .i64 n)=>some (.i n)
 | .const (.bool x)=>some (.b x)
 | .const x=>some (.v x)
 | .global g=>some (.v (.pointer (some ⟨g,0,none⟩)))
 | .func f=>some (.v (.func (.func f) #[] #[]))
theorem eM{ro N rs vs β a e h x y}(r:Rel ro N rs vs β a e h)(hx:slO vs N x=some y):a.eval x=ev e y:=by
 unfold slO at hx;split at hx
 ·split at hx
  ·rename_i n hn;cases hx;exact r.env n hn.1 (by simpa using hn.2)
  ·cases hx
 all_goals (cases hx;rfl)
theorem Ar{r P N rs vs Q e h}{c:Operand}{y:O}{t:Bool}{x z:Code}(hc:slO vs N c=some y)(ht:ev e y=.bool t)(hx:wpH r P N rs vs (if t then x else z) Q e h):wpH r P N rs vs (.cond c x z) Q e h :=
 fun β a w hr hs=>wpIn_cond (by rw[eM hr hc,ht]) (hx β a w hr hs)
def iy(P:Program)(f:FuncId):Prop:=∀ args w,(callFunc f args).run P w=.ok (.enter f args) w
theorem rv {P : Program} {f : FuncId} {fn : Func} (hf : P.funcs[f]? = some fn) (hn : (fn.name == "runtime.NumGoroutine") = false) (hb : fn.body.isNone = false) : iy P f := by
 intro args w;have hn' : ¬ fn.name = "runtime.NumGoroutine" := by simpa using hn
 have hb':¬ fn.body=none:=by intro h;rw[h]at hb;cases hb
 simp[callFunc,program,Sem.run,hf,hn',hb',bind,Sem.bind,pure]
def il(h' h:H):Prop:=∀ s cs,Item.reg s cs∈h'.L→∃ cs',Item.reg s cs'∈h.L
theorem il.refl(h:H):il h h:=fun _ cs hs=>⟨cs,hs⟩
theorem il.trans{a b c:H}(h1:il b a)(h2:il c b):il c a:=fun s cs hs=>by obtain⟨cs',h⟩:=h2 s cs hs;exact h1 s cs' h
def eS(P:Program)(f:FuncId)(args:Array Value)(h:H)(R:Value→H→Prop):Prop :=
 iy P f∧∀ β w,Sat β h w→Calls P f args w fun x w'=>∃ v h',x=.returned v∧(h'.D=h.D∧il h' h)∧Sat β h' w'∧Step β h w β h' w'∧R v h'
theorem eS.mono{P f args h}{R R':Value→H→Prop}(hc:eS P f args h R)(hr:∀ v h',R v h'→R' v h'):eS P f args h R' :=
 ⟨hc.1,fun β w hs=>(hc.2 β w hs).mono fun _ _ ⟨v,h',a,b,c,d,r⟩=>⟨v,h',a,b,c,d,hr _ _ r⟩⟩
abbrev Kv:=List Item
abbrev Kw:=List Item
abbrev KH:=Env→H→Prop
end Go.Kx
namespace Go.Kx
open Go Go.RowKit
open List (getElem?_eq_getElem mem_of_getElem? length_append append_nil take_length)
theorem eD(β:Nat→Nat)(L1 L2:Kw):dom β (L1++L2)=dom β L1++dom β L2:=List.filterMap_append
theorem gA(β:Nat→Nat)(it:Item)(L:Kw):dom β (it :: L)=(it.block β).toList++dom β L:=by
 unfold dom;cases hb:it.block β with
 | none=>rw[List.filterMap_cons_none hb];rfl
 | some b=>rw[List.filterMap_cons_some hb];rfl
theorem iP{β β' G L L' D w w'}(s:Sat β ⟨G,L,D⟩ w)(hos:w'.os=w.os)(htape:w'.tape=w.tape)(hout:w'.output=w.output)(hsz:w.heap.size≤w'.heap.size)
  (hold:∀ b,b < w.heap.size→b∉dom β L→w'.heap[b]?=w.heap[b]?) (hok:∀ it∈L',it.ok β' w') (hnd:(dom β' L').Nodup)
  (hnew:∀ b∈dom β' L',b∈dom β L∨w.heap.size≤b):Sat β' ⟨G,L',D⟩ w'∧Step β ⟨G,L,D⟩ w β' ⟨G,L',D⟩ w':=by
 have hnd0:=List.nodup_append.1 s.nd;refine⟨⟨fun b o hb=>?_,hok,?_,fun b hb=>?_,fun b hb=>?_⟩,⟨hos,htape,hout,hsz,hold,KO,fun _ h h'=>absurd h h',hnew,[],rfl,by simp⟩⟩
 ·rw[hold b (s.g_lt hb) (fun hm=>by have:=s.df b (List.mem_append_left _ hm);rw[this]at hb;cases hb)];exact s.g b o hb
 ·refine List.nodup_append.2 ⟨hnd,hnd0.2.1,fun b hb c hc=>?_⟩;rcases hnew b hb with h | h
  ·exact hnd0.2.2 b h c hc
  ·have:=s.d_lt (b:=c) hc;omega
 ·rcases List.mem_append.1 hb with hb | hb
  ·rcases hnew b hb with h | h
   ·exact s.df b (List.mem_append_left _ h)
   ·cases hg:G b with
    | none=>exact hg
    | some o=>have:=s.g_lt (b:=b) hg;omega
  ·exact s.df b (List.mem_append_right _ hb)
 ·rw[hold b (s.d_lt hb) (fun hm=>hnd0.2.2 b hm b hb rfl)];exact s.d b hb
theorem Sat.nd'{β G L D w}(s:Sat β ⟨G,L,D⟩ w):(dom β L).Nodup:=(List.nodup_append.1 s.nd).1
theorem lj{β G L D w w'}{it:Item}(s:Sat β ⟨G,L,D⟩ w)(hos:w'.os=w.os)(htape:w'.tape=w.tape)(hout:w'.output=w.output)(hsz:w.heap.size≤w'.heap.size)
  (hold:∀ b,b < w.heap.size→w'.heap[b]?=w.heap[b]?) (hok:it.ok β w') (hb:∀ b,it.block β=some b→w.heap.size≤b) :
  Sat β ⟨G,it :: L,D⟩ w'∧Step β ⟨G,L,D⟩ w β ⟨G,it :: L,D⟩ w':=by
 refine iP s hos htape hout hsz (fun b h _=>hold b h) ?_ ?_ ?_
 ·intro x hx;rcases List.mem_cons.1 hx with rfl | hx
  ·exact hok
  ·exact Item.ok_of (s.l x hx) (fun b hb=>hold b (Item.ok_lt (s.l x hx) hb)) rfl
 ·rw[gA];refine List.nodup_append.2 ⟨by cases it.block β <;> simp,s.nd',fun b hb1 c hc=>?_⟩;have h1:=hb b (by simpa using hb1);have h2:=s.dom_lt hc;omega
 ·intro b hb1;rw[gA]at hb1;rcases List.mem_append.1 hb1 with h | h
  ·exact .inr (hb b (by simpa using h))
  ·exact .inl h
theorem kM{β G L1 L2 D w w'}{it it':Item}(s:Sat β ⟨G,L1++it :: L2,D⟩ w)(hos:w'.os=w.os)(htape:w'.tape=w.tape)(hout:w'.output=w.output)(hsz:w.heap.size≤w'.heap.size)
  (hold:∀ b,b < w.heap.size→it.block β≠some b→w'.heap[b]?=w.heap[b]?) (hok:it'.ok β w') (hb:∀ b,it'.block β=some b→it.block β=some b∨w.heap.size≤b) :
  Sat β ⟨G,L1++it' :: L2,D⟩ w'∧Step β ⟨G,L1++it :: L2,D⟩ w β ⟨G,L1++it' :: L2,D⟩ w':=by
 have hnd:=s.nd';rw[eD,gA]at hnd;have h1:=List.nodup_append.1 hnd;have h2:=List.nodup_append.1 h1.2.1;have hin:∀ b,b∈dom β (L1++it :: L2)↔b∈dom β L1∨it.block β=some b∨b∈dom β L2:=by
  intro b;rw[eD,gA,List.mem_append,List.mem_append];simp
 have hin':∀ b,b∈dom β (L1++it' :: L2)↔b∈dom β L1∨it'.block β=some b∨b∈dom β L2:=by
  intro b;rw[eD,gA,List.mem_append,List.mem_append];simp
 have hlt:∀ b,b∈dom β L1∨b∈dom β L2→b < w.heap.size:=fun b hb=>s.dom_lt ((hin b).2 (by rcases hb with h | h;exact .inl h;exact .inr (.inr h)))
 have hne1:∀ b,b∈dom β L1→it.block β≠some b:=fun b hb he=>h1.2.2 b hb b (List.mem_append_left _ (by simp[he])) rfl
 have hne2:∀ b,b∈dom β L2→it.block β≠some b:=fun b hb he=>h2.2.2 b (by simp[he]) b hb rfl
 refine iP s hos htape hout hsz (fun b h hn=>hold b h (fun he=>hn ((hin b).2 (.inr (.inl he))))) ?_ ?_ ?_
 ·intro x hx;have keep:∀ x,x∈L1∨x∈L2→x.ok β w':=by
   intro x hx;have hx0:x∈L1++it :: L2:=by rcases hx with h | h <;> simp[h]
   refine Item.ok_of (s.l x hx0) (fun b hb=>hold b (Item.ok_lt (s.l x hx0) hb) ?_) rfl;rcases hx with h | h
   ·exact hne1 b (List.mem_filterMap.2 ⟨x,h,hb⟩)
   ·exact hne2 b (List.mem_filterMap.2 ⟨x,h,hb⟩)
  rcases List.mem_append.1 hx with h | h
  ·exact keep x (.inl h)
  ·rcases List.mem_cons.1 h with rfl | h
   ·exact hok
   ·exact keep x (.inr h)
 ·rw[eD,gA];refine List.nodup_append.2 ⟨h1.1,List.nodup_append.2 ⟨by cases it'.block β <;> simp,h2.2.1,fun b hb1 c hc=>?_⟩,fun b hb1 c hc=>?_⟩
  ·rcases hb b (by simpa using hb1)with h | h
   ·exact fun e=>hne2 c hc (e ▸ h)
   ·have:=hlt c (.inr hc);omega
  ·rcases List.mem_append.1 hc with hc | hc
   ·rcases hb c (by simpa using hc)with h | h
    ·exact fun e=>hne1 b hb1 (e ▸ h)
    ·have:=hlt b (.inl hb1);omega
   ·exact h1.2.2 b hb1 c (List.mem_append_right _ hc)
 ·intro b hb1;rcases (hin' b).1 hb1 with h | h | h
  ·exact .inl ((hin b).2 (.inl h))
  ·rcases hb b h with h | h
   ·exact .inl ((hin b).2 (.inr (.inl h)))
   ·exact .inr h
  ·exact .inl ((hin b).2 (.inr (.inr h)))
theorem xG{β G L L' D w}(s:Sat β ⟨G,L,D⟩ w)(hs:L'.Sublist L):Sat β ⟨G,L',D⟩ w∧Step β ⟨G,L,D⟩ w β ⟨G,L',D⟩ w:=by
 have hd:(dom β L').Sublist (dom β L):=hs.filterMap _;exact iP s rfl rfl rfl (Nat.le_refl _) (fun _ _ _=>rfl) (fun it h=>s.l it (hs.subset h)) (hd.nodup s.nd') (fun b hb=>.inl (hd.subset hb))
theorem pZ{β G L L' D w}(s:Sat β ⟨G,L,D⟩ w)(hs:L.Perm L'):Sat β ⟨G,L',D⟩ w∧Step β ⟨G,L,D⟩ w β ⟨G,L',D⟩ w:=by
 have hd:(dom β L).Perm (dom β L'):=hs.filterMap _;exact iP s rfl rfl rfl (Nat.le_refl _) (fun _ _ _=>rfl) (fun it h=>s.l it (hs.symm.subset h)) (hd.nodup_iff.1 s.nd') (fun b hb=>.inl (hd.symm.subset hb))
theorem oV{β G L D w}{it:Item}{b:Nat}{o:Obj}(s:Sat β ⟨G,it :: L,D⟩ w)(hb:it.block β=some b)(ho:w.heap[b]?=some o):
  Sat β ⟨fun i=>if i=b then some o else G i,L,D⟩ w∧Step β ⟨G,it :: L,D⟩ w β ⟨fun i=>if i=b then some o else G i,L,D⟩ w:=by
 have hdc:dom β (it :: L)=b :: dom β L:=by rw[gA,hb];rfl
 have hnd:=s.nd;simp only[hdc,List.cons_append,List.nodup_cons]at hnd;have hgb:G b=none:=s.df b (by rw[hdc];simp);refine⟨⟨fun i o' hi=>?_,fun x hx=>s.l x (List.mem_cons_of_mem _ hx),hnd.2,fun i hi=>?_,s.d⟩,⟨rfl,rfl,rfl,Nat.le_refl _,fun _ _ _=>rfl,fun i o' hi=>?_,fun i h0 h1=>?_,fun i hi=>.inl ?_,[],rfl,by simp⟩⟩
 ·simp only at hi;split at hi
  ·rename_i he;subst he;cases hi;exact ho
  ·exact s.g i o' hi
 ·simp only;rw[if_neg (fun he=>by subst he;exact hnd.1 hi)];exact s.df i (by rw[hdc];exact List.mem_cons_of_mem _ hi)
 ·simp only;simp only at hi;rw[if_neg (fun e=>by subst e;rw[hgb]at hi;cases hi)];exact hi
 ·simp only at h1;split at h1
  ·rename_i he;subst he;right;rw[hdc];simp
  ·exact absurd h0 h1
 ·show i∈dom β (it :: L);rw[hdc];exact List.mem_cons_of_mem _ hi
def fB(G:Ks)(a:Addr):Option Value :=
 match G a.block with
 | some (.cells c _ _)=>if a.spot.isSome then none else c[a.off]?
 | _=>none
inductive Ld1 (h:H):Addr→Value→Prop
 | g {a v} (hc:fB h.G a=some v):Ld1 h a v
 | blk {b o cs v} (hm:Item.blk b cs∈h.L) (hc:cs[o]?=some v):Ld1 h ⟨b,o,none⟩ v
 | row {g o n' c e sz n xs v} (hm:Item.row (.slice (some ⟨g,0,none⟩) n' c) e sz n xs∈h.L) (hc:xs[o]?=some v):Ld1 h ⟨g,o,none⟩ v
theorem Ld1.mono{h h':H}{a v}(hl:Ld1 h a v)(hg:h'.G=h.G)(hL:∀ it,it∈h.L→it∈h'.L):Ld1 h' a v:=by
 cases hl with
 | g hc=>exact .g (by rw[hg];exact hc)
 | blk hm hc=>exact .blk (hL _ hm) hc
 | row hm hc=>exact .row (hL _ hm) hc
theorem Ld1.sound{β h w a v}(s:Sat β h w)(hl:Ld1 h a v):w.cell? a=some v:=by
 cases hl with
 | g hc =>
  unfold fB at hc;split at hc
  ·rename_i c t fr hg;have:=s.g _ _ hg;simp only[World.cell?,this];exact hc
  ·cases hc
 | @blk b o cs v hm hc =>
  obtain⟨t,ht⟩:=s.l _ hm;simp[World.cell?,ht,hc]
 | @row g o n' c e sz n xs v hm hc =>
  have hr:sA w _ e sz n xs:=s.l _ hm;obtain⟨hl,hr⟩:=hr;rcases hr with⟨A,hA,rfl⟩ | ⟨g',cap,cur,hv,_,hg,_,_,_,htake⟩
  ·have:xs=[]:=List.eq_nil_of_length_eq_zero (by simpa using hl);subst this;simp at hc
  ·injection hv with hv _ _
   injection hv with hv
   injection hv with hv _ _
   subst hv;simp only[World.cell?,hg];rw[← htake,List.getElem?_take]at hc;split at hc
   ·simpa using hc
   ·cases hc
def LdN(h:H)(p:Value)(n:KI)(v:Value):Prop :=
 match n with
 | none=>∃ a,p=.pointer (some a)∧Ld1 h a v
 | some k=>∃ a vs,p=.pointer (some a)∧v=.agg (List.toArray vs)∧vs.length=k∧∀ j u,vs[j]?=some u→Ld1 h (a.add j) u
def vo(P:Program)(t:TypeId):Option (KI) :=
 match P.underlying t,P.info? t with
 | some (.struct _),some i | some (.array ..),some i=>some (some i.size)
 | some _,some i=>if i.size=1 then some none else none
 | _,_=>none
theorem im{P:Program}{β h w t p n v}(s:Sat β h w)(hn:vo P t=some n)(hl:LdN h p n v):(Instr.loadAt t p).run P w=.ok v w:=by
 unfold vo at hn;have agg:∀ i:TypeInfo,P.info? t=some i→(isAgg t).run P w=.ok true w→n=some i.size→(Instr.loadAt t p).run P w=.ok v w:=by
  rintro i hi hagg rfl;obtain⟨a,vs,rfl,rfl,hk,hc⟩:=hl;have h1:=run_loadCells_list (P:=P) w a vs (fun j u hu=>(hc j u hu).sound s);simp only[Instr.loadAt,Instr.sureAddr,loadVar,Sem.run_bind,Sem.run_pure,Result.andThen_ok,hagg,if_true,sizeOf,typeInfo,program,Sem.run,hi];simp[bind,Sem.bind,Sem.run,hi,← hk,h1,pure,Sem.run_bind',Result.andThen]
 split at hn
 ·rename_i i hu hi;cases hn;exact agg i hi (by simp[isAgg,run_underlying hu]) rfl
 ·rename_i i hu hi;cases hn;exact agg i hi (by simp[isAgg,run_underlying hu]) rfl
 ·rename_i d i hd1 hd2 hu hi;split at hn
  ·cases hn;obtain⟨a,rfl,hl⟩:=hl;have hagg:(isAgg t).run P w=.ok false w:=by
    have:=hu;simp only[isAgg,Sem.run_bind,run_underlying this,Result.andThen_ok];cases d <;> first | rfl | exact absurd rfl (hd1 _ _ ‹_›) | skip
    all_goals simp_all
   simp only[Instr.loadAt,Instr.sureAddr,loadVar,Sem.run_bind,Sem.run_pure,Result.andThen_ok,hagg,Bool.false_eq_true,if_false];simp[load,Sem.run,hl.sound s]
  ·cases hn
 ·cases hn
def eo(cs:Kt)(o:Nat)(xs:Kt):Kt:=cs.take o++xs++cs.drop (o+xs.length)
theorem sQ{P:Program}{w:World}{t:TypeId}{i:TypeInfo}{b o:Nat}{cs xs:Kt}{te:TypeId}{y:Value}(hi:P.info? t=some i)(hw:w.heap[b]?=some (.cells cs.toArray te (0,0)))
  (hy:y.cells.toList=xs) (hsz:xs.length=i.size) (ho:o+xs.length≤cs.length) (h1:∀ u∈xs,u.oneCell'=true) :
  ∃ w',(Instr.storeAt t (.pointer (some ⟨b,o,none⟩)) y).run P w=.ok () w'∧w'.heap[b]?=some (.cells (eo cs o xs).toArray te (0,0))∧(∀ b',b'≠b→w'.heap[b']?=w.heap[b']?) ∧
   w'.heap.size=w.heap.size∧w'.os=w.os∧w'.tape=w.tape∧w'.output=w.output:=by
 have hst:=run_storeCells_at P b o te xs 0 cs.toArray w hw (by simpa using ho) h1;have hl:y.cells.size=i.size:=by rw[← hsz,← hy];simp
 refine⟨w.setRow b (eo cs o xs).toArray,?_,setRow_heap w b _ _ te (0,0) hw,fun b' hb=>setRow_other w b b' _ hb,setRow_size w b _,rfl,rfl,rfl⟩;have hty:(sizeOf t).run P w=.ok i.size w:=by simp[sizeOf,typeInfo,hi]
 simp only[Instr.storeAt,Instr.sureAddr,storeVar,Sem.run_bind,Sem.run_pure,Result.andThen_ok,hty,hl,ne_eq,not_true_eq_false,if_false,hy,hst];simp[eo]
theorem mZ{P:Program}(size:Nat)(A:Ky)(w:World):(Builtin.firstCells size 0 (.slice A 0 0)).run P w=.ok #[] w:=by
 cases A <;> simp[Builtin.firstCells,loadCells,loadCellsFrom]
theorem ul{P:Program}{w:World}{t tx ty e:TypeId}{i:TypeInfo}{z v x:Value}{n m:Nat}{xs news:Kt}(ht:P.underlying t=some (.slice e))(hi:P.info? e=some i)(hz:i.zero=some z)(hzs:z.cells.size=i.size)
  (hr:sA w v e i.size n xs) (hs:Src P i.size tx x m news w) (h63:n+m≤maxLen) (hb:(n+m) * i.bytes≤140737488355328) :
  ∃ A c w',(Builtin.append_ #[t,tx] ty #[v,x]).run P w=.ok (.slice A (n+m) c) w'∧sA w' (.slice A (n+m) c) e i.size (n+m) (xs++news)∧w'.os=w.os∧w'.tape=w.tape∧w'.output=w.output ∧
   w.heap.size≤w'.heap.size∧(∀ b,b < w.heap.size→fh v≠some b→w'.heap[b]?=w.heap[b]?)∧(∀ b,fh (.slice A (n+m) c)=some b→fh v=some b∨w.heap.size≤b):=by
 have h63':((n+m:Nat):Int)≤9223372036854775807:=by unfold maxLen at h63;omega
 have hlen:(xs++news).length=(n+m) * i.size:=by rw[length_append,hr.1,hs.newsLen,Nat.add_mul]
 -- a new block
 have grow:∀ (base:Ky) (cap:Nat),v=.slice base n cap→(Builtin.firstCells i.size n (.slice base n cap)).run P w.drew=.ok xs.toArray w.drew→cap < n+m →
   ∃ A c w',(Builtin.append_ #[t,tx] ty #[v,x]).run P w=.ok (.slice A (n+m) c) w'∧sA w' (.slice A (n+m) c) e i.size (n+m) (xs++news)∧w'.os=w.os∧w'.tape=w.tape∧w'.output=w.output ∧
   w.heap.size≤w'.heap.size∧(∀ b,b < w.heap.size→fh v≠some b→w'.heap[b]?=w.heap[b]?)∧(∀ b,fh (.slice A (n+m) c)=some b→fh v=some b∨w.heap.size≤b):=by
  rintro base cap rfl hf hg;have hrun:=run_append_grow_src w t tx ty e i z ht hi hz base n cap xs hf x m news hs hg h63' (growslice_fits hg hb);have hge:=grownCap_ge w (n+m) cap e;have hcm:grownCap w (n+m) cap e≤maxLen:=grownCap_le_maxLen w (n+m) cap e h63
  refine⟨_,_,_,hrun,⟨hlen,.inr ⟨w.heap.size,_,_,rfl,by omega,heap_alloc_new w.drew _,hge,hcm,?_,?_⟩⟩,rfl,rfl,rfl,by simp,fun b hb' _=>heap_alloc_old w.drew _ hb',fun b hb'=>.inr ?_⟩
  ·simp only[Array.size_append,List.size_toArray,size_zeroCells,hzs,hlen,← Nat.add_mul];congr 1;omega
  ·simp only[Array.toList_append,← hlen];exact List.take_left
  ·have hc':¬ grownCap w (n+m) cap e=0:=by omega
   simp[fh,hc']at hb';omega
 rcases hr.2 with⟨A,rfl,rfl⟩ | ⟨g,cap,cur,rfl,hc,hg,hnc,hcm,hcs,htake⟩
 ·have hx:xs=[]:=List.eq_nil_of_length_eq_zero (by simpa using hr.1);subst hx;by_cases hm:m=0
  ·subst hm;have hn:news=[]:=List.eq_nil_of_length_eq_zero (by simpa using hs.newsLen);subst hn;refine⟨A,0,w,?_,⟨by simp,.inl ⟨A,rfl,rfl⟩⟩,rfl,rfl,rfl,Nat.le_refl _,fun _ _ _=>rfl,fun b hb'=>.inl hb'⟩;have hc:=hs.cells;cases A <;> rcases hs.kind with⟨e',hk⟩ | hk <;> simp[Builtin.append_,run_underlying ht,run_underlying hk,sizeOf,typeInfo,hi,hs.len,hc,storeCells]
  ·exact grow A 0 rfl (mZ _ _ _) (by omega)
 ·have hcells:∀ j u,xs[j]?=some u→w.cell? ((⟨g,0,none⟩:Addr).add j)=some u:=by
   intro j u hu;have hadd:(⟨g,0,none⟩:Addr).add j=⟨g,j,none⟩:=by unfold Addr.add;split <;> simp_all
   rw[hadd];simp only[World.cell?,hg];rw[← htake,List.getElem?_take]at hu;split at hu
   ·simpa using hu
   ·cases hu
  by_cases hroom:n+m≤cap
  ·have hmul:(n+m) * i.size≤cap * i.size:=Nat.mul_le_mul_right _ hroom;have hfit:n * i.size+news.length≤cur.size:=by rw[hcs,hs.newsLen,← Nat.add_mul];exact hmul
   have hst:=run_storeCells_at P g (n * i.size) e news 0 cur w hg (by simpa using hfit) hs.one;simp only[Nat.add_zero]at hst;have hc':¬ cap=0:=by omega
   obtain⟨cur',hcur⟩:∃ c:Array Value,c=(cur.toList.take (n * i.size)++news++cur.toList.drop (n * i.size+news.length)).toArray:=⟨_,rfl⟩;rw[← hcur]at hst;refine⟨some ⟨g,0,none⟩,cap,w.setRow g cur',?_,⟨hlen,.inr ⟨g,cap,cur',rfl,hc,setRow_heap w g cur _ e (0,0) hg,hroom,hcm,?_,?_⟩⟩,rfl,rfl,rfl,by simp,fun b _ hb'=>setRow_other w g b _ (fun he=>hb' (by simp[fh,hc',he])),fun b hb'=>.inl hb'⟩
   ·rcases hs.kind with⟨e',hk⟩ | hk <;> simp[Builtin.append_,run_underlying ht,run_underlying hk,sizeOf,typeInfo,hi,hs.len,hroom,hs.cells,Addr.add_lit,hst]
   ·rw[hcur];simp only[List.size_toArray,length_append,List.length_take,List.length_drop,Array.length_toList];omega
   ·rw[hcur,htake,← hlen];exact List.take_left
  ·exact grow (some ⟨g,0,none⟩) cap rfl (run_firstCells_some w.drew i.size n _ n cap xs hr.1 (by simpa using hcells)) (by omega)
inductive SOp where
 | nop
 | mv (d:Nat) (x:O)
 | pick (d:Nat) (c x y:O)
 | bin (d:Nat) (op:BinOp) (x y:O)
 | eqb (d:Nat) (ne:Bool) (x y:O)
 | eqf (d:Nat) (ne:Bool) (ks:KF) (x y:O)
 | un (d:Nat) (op:UnOp) (x:O)
 | isn (d:Nat) (ne:Bool) (x:O)
 | bl0 (d:Nat)
 | cvI (d:Nat) (k:IntKind) (x:O)
 | ext (d:Nat) (x:O) (i:Nat)
 | fld (d:Nat) (x:O) (o:Nat) (n:KI)
 | bld (d:Nat) (z:Kt) (ps:List (Nat × Nat × O))
 | mkf (d:Nat) (f:Fn) (cs:List O)
 | len (d:Nat) (str:Bool) (x:O)
 | mm (d:Nat) (mx:Bool) (x y:O)
 | nck (d:Nat) (x:O)
 | ixA (d:Nat) (x i:O) (sz:Nat)
 | flA (d:Nat) (x:O) (o:Nat)
 | sl (d:Nat) (x:O) (lo hi mx:Option O) (sz:Nat)
 | alR (s:Nat) (z:Kt)
 | bxR (s:Nat) (x:O)
 | ldR (d s o:Nat) (n:KI)
 | stR (s o n:Nat) (x:O)
 | al (d:Nat) (z:Kt)
 | bx (d:Nat) (x:O)
 | ld (d:Nat) (x:O) (n:KI)
 | st (x:O) (n:Nat) (y:O)
 | bls (d:Nat) (e:TypeId) (n sz:Nat) (z:Kt) (ps:List (Nat × Nat × O))
 | app (d:Nat) (x y:O) (e:TypeId) (sz nb:Nat)
 | call (d f:Nat) (xs:List O)
 | cav (d:Nat) (f:O) (xs:List O)
 | ixP (d:Nat) (x i:O) (n sz:Nat)
 | ixV (d:Nat) (x i:O) (n sz:Nat) (k:KI)
 | cvS (d:Nat) (x:O)
 | cpc (d:Nat) (x:O)
 | apz (d:Nat) (e:TypeId) (sz nb:Nat) (x y:O)
 | clr (d:Nat) (x:O) (z:Array Value)
def Ev:SOp→Nat
 | .mv d _ | .pick d _ _ _ | .bin d _ _ _ | .eqb d _ _ _ | .eqf d _ _ _ _ | .un d _ _ | .isn d _ _ | .bl0 d | .cvI d _ _ | .ext d _ _ | .fld d _ _ _ | .bld d _ _ | .mkf d _ _ | .len d _ _ | .mm d _ _ _ | .nck d _
 | .ixA d _ _ _ | .flA d _ _ | .sl d _ _ _ _ _ | .ldR d _ _ _ | .al d _ | .bx d _ | .ld d _ _ | .bls d _ _ _ _ _ | .app d _ _ _ _ _ | .call d _ _ | .cav d _ _ | .ixP d _ _ _ _ | .ixV d _ _ _ _ _ | .cvS d _ | .cpc d _ | .apz d _ _ _ _ _ | .clr d _ _=>d
 | .nop | .alR _ _ | .bxR _ _ | .stR _ _ _ _ | .st _ _ _=>99999
def fq(op:BinOp):Value→Value→Option Value
 | .int k a,.int k' b =>
  match op with
  | .shl=>if 0≤b then some (.int k (k.wrap (a * 2 ^ (min b.toNat k.bits))))else none
  | .shr=>if 0≤b then some (.int k (a.fdiv (2 ^ (min b.toNat k.bits))))else none
  | op =>
   if k=k' then
    match op with
    | .add=>some (.int k (k.wrap (a+b)))
    | .sub=>some (.int k (k.wrap (a - b)))
    | .mul=>some (.int k (k.wrap (a * b)))
    | .quo=>if b=0 then none else some (.int k (k.wrap (a.tdiv b)))
    | .rem=>if b=0 then none else some (.int k (a.tmod b))
    | .and=>some (.int k (k.wrap (BitVec.ofInt k.bits a &&& BitVec.ofInt k.bits b).toNat))
    | .or=>some (.int k (k.wrap (BitVec.ofInt k.bits a ||| BitVec.ofInt k.bits b).toNat))
    | .xor=>some (.int k (k.wrap (BitVec.ofInt k.bits a ^^^ BitVec.ofInt k.bits b).toNat))
    | .andNot=>some (.int k (k.wrap (BitVec.ofInt k.bits a &&& ~~~ BitVec.ofInt k.bits b).toNat))
    | .eql=>some (.bool (decide (a=b)))
    | .neq=>some (.bool (decide (a≠b)))
    | .lss=>some (.bool (decide (a < b)))
    | .leq=>some (.bool (decide (a≤b)))
    | .gtr=>some (.bool (decide (b < a)))
    | .geq=>some (.bool (decide (b≤a)))
    | _=>none
   else none
 | .string a,.string b =>
  match op with
  | .eql=>some (.bool (a.toList == b.toList))
  | .neq=>some (.bool !(a.toList == b.toList))
  | _=>none
 | _,_=>none
theorem AH{P:Program}{op:BinOp}{t:TypeId}{x y v:Value}(w:World)(hv:fq op x y=some v):(binOp op t x y).run P w=.ok v w:=by
 unfold fq at hv;split at hv
 · rename_i k a k' b
   cases op <;> simp only at hv <;>
     first
     | (split at hv
        · cases hv
          rename_i hb
          have:¬ b < 0:=by omega
          simp[binOp,Op.shift,this]
        · cases hv)
     | (split at hv
        · rename_i hk
          subst hk
          first
          | (cases hv;first | (simp[binOp,Op.intArith];done) | (simp[binOp,Op.intBits];done) | (simp[binOp,Op.intCmp];first | rfl | (congr 1;done) | skip))
          | (split at hv
             · cases hv
             · rename_i hb
               cases hv
               simp[binOp,Op.intDiv,hb])
        · cases hv)
     | cases hv
 · cases op <;> simp only at hv <;> first | (cases hv;done) | (cases hv;simp[binOp,Op.stringOp])
 · cases hv
def unV(op:UnOp):Value→Option Value
 | .int k n =>
  match op with
  | .neg=>some (.int k (k.wrap (0 - n)))
  | .xor=>some (.int k (k.wrap (BitVec.ofInt k.bits (if k.signed then -1 else k.max) ^^^ BitVec.ofInt k.bits n).toNat))
  | _=>none
 | .bool b =>
  match op with
  | .not=>some (.bool !b)
  | _=>none
 | _=>none
theorem BR{P:Program}{op:UnOp}{x v:Value}(w:World)(hv:unV op x=some v):(Op.unary op x).run P w=.ok v w:=by
 unfold unV at hv;split at hv
 ·cases op <;> simp only at hv <;> cases hv
  ·simp[Op.unary,Op.intArith]
  ·simp[Op.unary,Op.intBits]
 ·cases op <;> simp only at hv <;> cases hv;simp[Op.unary]
 ·cases hv
def wX(t:Bool):Value→Value→Value
 | .bool p,.bool q=>.bool (if t then p else q)
 | x,y=>if t then x else y
theorem pm(t:Bool)(x y:Value):wX t x y=if t then x else y:=by
 unfold wX;split
 ·cases t <;> rfl
 ·rfl
def eqC:KF→Kt→Kt→Option Bool
 | [],[],[]=>some true
 | 0 :: ks,.int k a :: xs,.int k' b :: ys=>if k=k' then(eqC ks xs ys).map fun t=>decide (a=b) && t else none
 | 1 :: ks,.bool a :: xs,.bool b :: ys=>(eqC ks xs ys).map fun t=>(a == b) && t
 | 2 :: ks,.string a :: xs,.string b :: ys=>(eqC ks xs ys).map fun t=>(a.toList == b.toList) && t
 | _,_,_=>none
def m4(P:Program):Nat→List Field→Option (KF)
 | _,[]=>some []
 | o,f :: fs =>
  if f.offset = o ∧ f.name ≠ "_" then
   match P.underlying f.type with
   | some (.int _)=>(m4 P (o+1) fs).map (0 :: ·)
   | some .bool=>(m4 P (o+1) fs).map (1 :: ·)
   | some .string=>(m4 P (o+1) fs).map (2 :: ·)
   | _=>none
  else none
def Gh:TypeDesc→Bool
 | .struct _ | .array _ _=>false
 | _=>true
theorem nf{P:Program}{t:TypeId}{d:TypeDesc}(hu:P.underlying t=some d)(hd:Gh d=true)(cs:Array Value)(o:Nat)(v:Value)(w:World)(hv:cs[o]?=some v):
  (part t cs o).run P w=.ok v w:=by
 have hagg:(isAgg t).run P w=.ok false w:=by
  simp only[isAgg,Sem.run_bind,run_underlying hu,Result.andThen_ok];cases d <;> first | rfl | cases hd
 simp[part,hagg,hv]
theorem wd{P:Program}(d:Nat)(xs ys:Kt)(w:World):∀ (fs:List Field) (ks:KF) (o:Nat) (t:Bool),m4 P o fs=some ks→eqC ks (xs.drop o) (ys.drop o)=some t →
  (Op.eqFields (d+1) xs.toArray ys.toArray fs).run P w=.ok t w
 | [],ks,o,t,hk,ht=>by
  simp only[m4,Option.some.injEq]at hk;subst hk;unfold eqC at ht;split at ht <;> simp_all [Op.eqFields]
 | f :: fs,ks,o,t,hk,ht=>by
  simp only[m4]at hk;split at hk
  ·rename_i hf;obtain⟨hfo,hfn⟩:=hf;have key:∀ (k:Nat) (dd:TypeDesc),P.underlying f.type=some dd→Gh dd=true→(m4 P (o+1) fs).map (k :: ·)=some ks →
     (∀ x y ks' t',eqC (k :: ks') (x :: xs.drop (o+1)) (y :: ys.drop (o+1))=some t'→∃ b t'',eqC ks' (xs.drop (o+1)) (ys.drop (o+1))=some t''∧t'=(b && t'')∧(Op.equalIn (d+1) f.type x y).run P w=.ok b w) →
     (Op.eqFields (d+1) xs.toArray ys.toArray (f :: fs)).run P w=.ok t w:=by
    intro k dd hu hd hm hkk;cases hfs:m4 P (o+1) fs with
    | none=>simp[hfs]at hm
    | some ks' =>
     simp[hfs]at hm;subst hm;have hx:∃ x,xs.drop o=x :: xs.drop (o+1)∧xs[o]?=some x:=by
      cases hd0:xs.drop o with
      | nil=>rw[hd0]at ht;unfold eqC at ht;split at ht <;> simp_all
      | cons x r =>
       have h1:xs[o]?=some x:=by rw[← List.head?_drop,hd0];rfl
       have h2:xs.drop (o+1)=r:=by rw[← List.tail_drop,hd0];rfl
       exact⟨x,by rw[h2],h1⟩
     have hy:∃ y,ys.drop o=y :: ys.drop (o+1)∧ys[o]?=some y:=by
      cases hd0:ys.drop o with
      | nil=>rw[hd0]at ht;unfold eqC at ht;split at ht <;> simp_all
      | cons x r =>
       have h1:ys[o]?=some x:=by rw[← List.head?_drop,hd0];rfl
       have h2:ys.drop (o+1)=r:=by rw[← List.tail_drop,hd0];rfl
       exact⟨x,by rw[h2],h1⟩
     obtain⟨x,hx,hx'⟩:=hx;obtain⟨y,hy,hy'⟩:=hy;rw[hx,hy]at ht;obtain⟨b,t'',h1,rfl,h3⟩:=hkk x y ks' t ht;have ih:=wd d xs ys w fs ks' (o+1) t'' hfs h1;have p1:=nf hu hd xs.toArray f.offset x w (by rw[hfo];simpa using hx');have p2:=nf hu hd ys.toArray f.offset y w (by rw[hfo];simpa using hy');simp only[Op.eqFields,ne_eq,hfn,not_false_eq_true,if_true,Sem.run_bind,p1,p2,h3,Result.andThen_ok]
     cases b <;> simp[ih]
   split at hk
   ·rename_i kk hu;refine key 0 _ hu rfl hk ?_;intro x y ks' t' h;cases x <;> cases y <;> simp only[eqC]at h <;> try (cases h;done)
    split at h
    ·rename_i he;subst he;simp only[Option.map_eq_some_iff]at h;obtain⟨t'',h1,rfl⟩:=h;exact⟨_,t'',h1,rfl,by rw[run_equalIn_int w d _ _ _ _ _ hu];congr 1⟩
    ·cases h
   ·rename_i hu;refine key 1 _ hu rfl hk ?_;intro x y ks' t' h;cases x <;> cases y <;> simp only[eqC,Option.map_eq_some_iff]at h <;> try (cases h;done)
    obtain⟨t'',h1,rfl⟩:=h;exact⟨_,t'',h1,rfl,run_equalIn_bool' w d _ _ _ hu⟩
   ·rename_i hu;refine key 2 _ hu rfl hk ?_;intro x y ks' t' h;cases x <;> cases y <;> simp only[eqC,Option.map_eq_some_iff]at h <;> try (cases h;done)
    obtain⟨t'',h1,rfl⟩:=h;exact⟨_,t'',h1,rfl,run_equalIn_string w d _ _ _ hu⟩
   ·cases hk
  ·cases hk
def l7:List (Nat × Nat × Kt)→Kt→Option (Kt)
 | [],cs=>some cs
 | (o,n,xs) :: r,cs=>if xs.length=n∧o+n≤cs.length then l7 r (eo cs o xs)else none
theorem oC:∀ (xs:Kt) (k o:Nat) (cs:Kt),o+k+xs.length≤cs.length→((xs.zipIdx k).foldl (fun(cs:Array Value) p=>cs.setIfInBounds (o+p.2) p.1) cs.toArray)=(eo cs (o+k) xs).toArray
 | [],k,o,cs,h=>by simp[eo]
 | x :: xs,k,o,cs,h=>by
  simp only[List.length_cons]at h;simp only[List.zipIdx_cons,List.foldl_cons];have e1:cs.toArray.setIfInBounds (o+k) x=(cs.set (o+k) x).toArray:=by simp
  rw[e1,oC xs (k+1) o (cs.set (o+k) x) (by simp;omega)];congr 1;unfold eo;have h1:(cs.set (o+k) x).take (o+(k+1))=cs.take (o+k)++[x]:=by
   apply List.ext_getElem?;intro j;simp only[List.getElem?_take,List.getElem?_set,List.getElem?_append,List.length_take];by_cases hj:j < o+k
   ·have:¬ o+k=j:=by omega
    simp[hj,this,show j < o+(k+1)by omega,show j < cs.length by omega];intro hm;omega
   ·by_cases hj2:j=o+k
    ·subst hj2;simp[show o+k < o+(k+1)by omega,show o+k < cs.length by omega,show ¬ (o+k < min (o+k) cs.length)by omega,show o+k - min (o+k) cs.length=0 by omega]
    ·simp[show ¬ j < o+(k+1)by omega,show ¬ (j < min (o+k) cs.length)by omega,show j - min (o+k) cs.length≠0 by omega]
  have h2:(cs.set (o+k) x).drop (o+(k+1)+xs.length)=cs.drop (o+k+(x :: xs).length):=by
   apply List.ext_getElem?;intro j;simp only[List.getElem?_drop,List.getElem?_set,List.length_cons];have:¬ o+k=o+(k+1)+xs.length+j:=by omega
   simp only[this,if_false];congr 1;omega
  rw[h1,h2];simp
theorem vO{P:Program}(d:Nat){el:TypeId}{k:IntKind}(xs ys:Array Value)(w:World)(hu:P.underlying el=some (.int k)):∀ (is:KF) (o:Nat) (t:Bool),is=List.range' o is.length→eqC (List.replicate is.length 0) (xs.toList.drop o) (ys.toList.drop o)=some t →
  (Op.eqItems (d+1) el 1 xs ys is).run P w=.ok t w
 | [],o,t,_,ht=>by
  simp only[List.length_nil,List.replicate_zero]at ht;unfold eqC at ht;split at ht <;> simp_all [Op.eqItems]
 | j :: is,o,t,hi,ht=>by
  simp only[List.length_cons,List.range'_succ,List.cons.injEq]at hi;obtain⟨rfl,hi⟩:=hi;simp only[List.length_cons,List.replicate_succ]at ht;cases hx:xs.toList.drop j with
  | nil=>rw[hx]at ht;simp[eqC]at ht
  | cons x xr =>
   cases hy:ys.toList.drop j with
   | nil=>rw[hx,hy]at ht;cases x <;> simp[eqC]at ht
   | cons y yr =>
    rw[hx,hy]at ht;have x1:xs.toList[j]?=some x:=by rw[← List.head?_drop,hx];rfl
    have x2:xs.toList.drop (j+1)=xr:=by rw[← List.tail_drop,hx];rfl
    have y1:ys.toList[j]?=some y:=by rw[← List.head?_drop,hy];rfl
    have y2:ys.toList.drop (j+1)=yr:=by rw[← List.tail_drop,hy];rfl
    cases x <;> cases y <;> simp only[eqC]at ht <;> try (cases ht;done)
    split at ht
    ·rename_i he;subst he;simp only[Option.map_eq_some_iff]at ht;obtain⟨t'',h1,rfl⟩:=ht;rw[← x2,← y2]at h1;have ih:=vO d xs ys w hu is (j+1) t'' hi h1;have p1:=nf hu rfl xs j _ w (by simpa using x1);have p2:=nf hu rfl ys j _ w (by simpa using y1);simp only[Op.eqItems,Nat.mul_one,Sem.run_bind,p1,p2,Result.andThen_ok];rw[run_equalIn_int w d _ _ _ _ _ hu];simp only[Result.andThen_ok];rename_i n m
     by_cases hnm:n=m <;> simp[hnm,ih]
    ·cases ht
theorem po(place:Nat→Option (Nat × Nat)):∀ (ps:List (Nat × Value)) (qs:List (Nat × Nat × Kt)) (cells r:Kt),
  (ps.length=qs.length∧∀ (j i:Nat) (v:Value),ps[j]?=some (i,v)→∃ o n,place i=some (o,n)∧qs[j]?=some (o,n,v.cells.toList))→l7 qs cells=some r→Instr.fill place cells.toArray ps=some r.toArray
 | [],qs,cells,r,h,hr=>by
  have:qs=[]:=List.eq_nil_of_length_eq_zero h.1.symm;subst this;simp only[l7,Option.some.injEq]at hr;subst hr;rfl
 | (i,v) :: ps,qs,cells,r,h,hr=>by
  cases qs with
  | nil=>simp at h
  | cons q qs =>
   obtain⟨o,n,hp,hq⟩:=h.2 0 i v rfl;simp only[List.getElem?_cons_zero,Option.some.injEq]at hq;subst hq;simp only[l7]at hr;split at hr
   ·rename_i hc;have hvs:v.cells.size=n:=by simpa using hc.1
    have ih:=po place ps qs (eo cells o v.cells.toList) r ⟨by simpa using h.1,fun j i' v' hj=>by simpa using h.2 (j+1) i' v' (by simpa using hj)⟩ hr;have hs:=oC v.cells.toList 0 o cells (by simp[hvs];omega);simp only[Instr.fill,hp,hvs,ne_eq,not_true_eq_false,decide_false,Bool.false_or,List.size_toArray,gt_iff_lt,decide_eq_true_eq];rw[if_neg (by omega)];rw[← ih];congr 1;rw[Nat.add_zero]at hs
    rw[← hs,← Array.foldl_toList,Array.toList_zipIdx]
   ·cases hr
def getR(s:Nat):Kw→Option (Kt)
 | []=>none
 | .reg s' cs :: L=>if s'=s then some cs else getR s L
 | _ :: L=>getR s L
def hO(s:Nat)(cs:Kt):Kw→Kw
 | []=>[]
 | .reg s' c :: L=>if s'=s then .reg s cs :: L else .reg s' c :: hO s cs L
 | it :: L=>it :: hO s cs L
def rmR(s:Nat):Kw→Kw
 | []=>[]
 | .reg s' c :: L=>if s'=s then rmR s L else .reg s' c :: rmR s L
 | it :: L=>it :: rmR s L
theorem iM{s:Nat}{cs:Kt}:∀ {L:Kw},getR s L=some cs→∃ L1 L2,L=L1++.reg s cs :: L2∧∀ c,hO s c L=L1++.reg s c :: L2
 | .reg s' c' :: L,h=>by
  simp only[getR]at h;split at h
  ·rename_i he;subst he;cases h;exact⟨[],L,rfl,fun c=>by simp[hO]⟩
  ·rename_i he;obtain⟨L1,L2,rfl,h2⟩:=iM h;exact⟨.reg s' c' :: L1,L2,rfl,fun c=>by simp[hO,he,h2]⟩
 | .blk b c' :: L,h=>by
  obtain⟨L1,L2,rfl,h2⟩:=iM (L:=L) h;exact⟨.blk b c' :: L1,L2,rfl,fun c=>by simp[hO,h2]⟩
 | .row v e sz n xs :: L,h=>by
  obtain⟨L1,L2,rfl,h2⟩:=iM (L:=L) h;exact⟨.row v e sz n xs :: L1,L2,rfl,fun c=>by simp[hO,h2]⟩
 | .obj b o :: L,h=>by
  obtain⟨L1,L2,rfl,h2⟩:=iM (L:=L) h;exact⟨.obj b o :: L1,L2,rfl,fun c=>by simp[hO,h2]⟩
theorem lm{s:Nat}:∀ {L:Kw} {it:Item},it∈rmR s L→it∈L∧∀ c,it≠.reg s c
 | .reg s' c' :: L,it,h=>by
  simp only[rmR]at h;split at h
  ·obtain⟨h1,h2⟩:=lm h;exact⟨List.mem_cons_of_mem _ h1,h2⟩
  ·rename_i he;rcases List.mem_cons.1 h with rfl | h
   ·exact⟨by simp,fun c hc=>by injection hc with hc;exact he hc⟩
   ·obtain⟨h1,h2⟩:=lm h;exact⟨List.mem_cons_of_mem _ h1,h2⟩
 | .blk b c' :: L,it,h=>by
  simp only[rmR]at h;rcases List.mem_cons.1 h with rfl | h
  ·exact⟨by simp,fun c hc=>by cases hc⟩
  ·obtain⟨h1,h2⟩:=lm h;exact⟨List.mem_cons_of_mem _ h1,h2⟩
 | .row v e sz n xs :: L,it,h=>by
  simp only[rmR]at h;rcases List.mem_cons.1 h with rfl | h
  ·exact⟨by simp,fun c hc=>by cases hc⟩
  ·obtain⟨h1,h2⟩:=lm h;exact⟨List.mem_cons_of_mem _ h1,h2⟩
 | .obj b o :: L,it,h=>by
  simp only[rmR]at h;rcases List.mem_cons.1 h with rfl | h
  ·exact⟨by simp,fun c hc=>by cases hc⟩
  ·obtain⟨h1,h2⟩:=lm h;exact⟨List.mem_cons_of_mem _ h1,h2⟩
theorem mK{s:Nat}:∀ (L:Kw),(rmR s L).Sublist L
 | []=>.slnil
 | .reg s' c :: L=>by
  simp only[rmR];split
  ·exact .cons _ (mK L)
  ·exact .cons_cons _ (mK L)
 | .blk b c' :: L=>.cons_cons _ (mK L)
 | .row v e sz n xs :: L=>.cons_cons _ (mK L)
 | .obj b o :: L=>.cons_cons _ (mK L)
def fm(v:Value):Kt:=v.cells.toList
def ldC(cs:Kt)(o:Nat):KI→Option Value
 | none=>cs[o]?
 | some k=>if o+k≤cs.length then some (.agg ((cs.drop o).take k).toArray)else none
inductive StL:Kw→Value→Kt→Kw→Prop
 | blk (L1:Kw) {b o cs xs L2} (ho:o+xs.length≤cs.length):StL (L1++.blk b cs :: L2) (.pointer (some ⟨b,o,none⟩)) xs (L1++.blk b (eo cs o xs) :: L2)
 | row (L1:Kw) {g o n' c e sz n ys xs L2} (ho:o+xs.length≤ys.length) :
   StL (L1++.row (.slice (some ⟨g,0,none⟩) n' c) e sz n ys :: L2) (.pointer (some ⟨g,o,none⟩)) xs (L1++.row (.slice (some ⟨g,0,none⟩) n' c) e sz n (eo ys o xs) :: L2)
def Az(L:Kw)(v:Value)(et:TypeId)(sz:Nat)(L1:Kw)(n:Nat)(xs:Kt)(L2:Kw):Prop :=
 L=L1++.row v et sz n xs :: L2∨((∃ A,v=.slice A 0 0)∧L1=[]∧n=0∧xs=[]∧L2=L)
def Ex(h:H)(v:Value)(sz m:Nat)(ys:Kt):Prop :=
 (∀ u∈ys,u.oneCell'=true)∧ys.length=m * sz ∧
 ((∃ c,v=.slice none 0 c∧m=0)∨(∃ a c,v=.slice (some a) m c∧∀ j u,ys[j]?=some u→Ld1 h (a.add j) u)∨(∃ s,v=.string s∧sz=1∧ys=byteCells s∧m=s.size))
def GX:Value→Option Int
 | .int _ j=>some j
 | _=>none
def bnd(e:Env)(dflt:Int):Option O→Option Int
 | none=>some dflt
 | some o=>GX (ev e o)
def Ey:Bool→Value→Option Value
 | false,.slice _ n _=>some (.int .i64 n)
 | true,.string s=>some (.int .i64 s.size)
 | _,_=>none
def Fi:Value→Option Value
 | .slice _ _ c=>some (.int .i64 c)
 | _=>none
def mmV(mx:Bool):Value→Value→Option Value
 | .int k x,.int _ y=>some (.int k (if mx then(if x < y then y else x)else(if y < x then y else x)))
 | _,_=>none
def vm(o:Nat)(n:KI):Value→Option Value
 | .agg cs=>match n with
  | none=>cs.toList[o]?
  | some k=>some (.agg ((cs.toList.drop o).take k).toArray)
 | _=>none
def GA:Value→Option Value
 | .pointer (some a)=>some (.pointer (some a))
 | .func (.func g) a b=>some (.func (.func g) a b)
 | _=>none
def EV(o:Nat):Value→Option Value
 | .pointer (some a)=>some (.pointer (some (a.add o)))
 | _=>none
def Ew(i:Nat):Value→Option Value
 | .tuple vs=>vs.toList[i]?
 | _=>none
def EL(ne:Bool):Value→Value→Option Value
 | .bool a,.bool b=>some (.bool (if ne then !(a == b)else a == b))
 | _,_=>none
def Dg(ne:Bool):Value→Option Value
 | .slice A _ _=>some (.bool (if ne then A.isSome else A.isNone))
 | _=>none
def eqA:Ky→Ky→Option Bool
 | some a,some b=>if a.block=b.block then some (a == b)else none
 | A,none=>some A.isNone
 | none,some _=>some false
def AW(ne:Bool)(ks:KF):Value→Value→Option Value
 | .agg xs,.agg ys=>(eqC ks xs.toList ys.toList).map fun t=>.bool (if ne then !t else t)
 | .pointer A,.pointer B=>if ks=[3]then(eqA A B).map fun t=>.bool (if ne then !t else t)else none
 | _,_=>none
def cvI(k:IntKind):Value→Option Value
 | .int _ n=>some (.int k (k.wrap n))
 | _=>none
def vh(n sz:Nat):Value→Value→Option Value
 | .pointer (some a),.int _ j=>if 0≤j∧j < n then some (.pointer (some (a.add (j.toNat * sz))))else none
 | _,_=>none
def xp(n sz:Nat)(k:KI):Value→Value→Option Value
 | .agg cs,.int _ j=>if 0≤j∧j < n then vm (j.toNat * sz) k (.agg cs)else none
 | _,_=>none
def ov(c x y:Value):Option Value :=
 match c with
 | .bool t=>some (wX t x y)
 | _=>none
def fz:SOp→Env→Option Value
 | .mv _ x,e=>some (ev e x)
 | .pick _ c x y,e=>ov (ev e c) (ev e x) (ev e y)
 | .bin _ op x y,e=>fq op (ev e x) (ev e y)
 | .eqb _ ne x y,e=>EL ne (ev e x) (ev e y)
 | .eqf _ ne ks x y,e=>AW ne ks (ev e x) (ev e y)
 | .un _ op x,e=>unV op (ev e x)
 | .isn _ ne x,e=>Dg ne (ev e x)
 | .cvI _ k x,e=>cvI k (ev e x)
 | .ext _ x i,e=>Ew i (ev e x)
 | .fld _ x o n,e=>vm o n (ev e x)
 | .bld _ z ps,e=>(l7 (ps.map fun p=>(p.1,p.2.1,fm (ev e p.2.2))) z).map fun cs=>.agg cs.toArray
 | .mkf _ f cs,e=>some (.func f #[] (cs.map (ev e)).toArray)
 | .len _ b x,e=>Ey b (ev e x)
 | .cpc _ x,e=>Fi (ev e x)
 | .mm _ mx x y,e=>mmV mx (ev e x) (ev e y)
 | .nck _ x,e=>GA (ev e x)
 | .flA _ x o,e=>EV o (ev e x)
 | .ixP _ x i n sz,e=>vh n sz (ev e x) (ev e i)
 | .ixV _ x i n sz k,e=>xp n sz k (ev e x) (ev e i)
 | _,_=>none
def um(h:H)(v:Value)(s:ByteArray):Prop :=
 (∃ c,v=.slice none 0 c∧s=.empty)∨(∃ a c,v=.slice (some a) s.size c∧∀ j u,(byteCells s)[j]?=some u→Ld1 h (a.add j) u)
def jo(P:Program)(l:Nat)(args:Array Value)(h:H)(R:Value→H→Prop):Prop :=
 ∀ β w,Sat β h w→∃ f tmps assign body,(Instr.yield l args).run P w=.ok (.round l f tmps assign body) w ∧
  RoundIn (Fr none) 0 P l f tmps assign body w (fun x w'=>∃ v h',x=.returned v∧(h'.D=h.D∧il h' h)∧Sat β h' w'∧Step β h w β h' w'∧R v h')
def Jl(P:Program)(fv:Value)(args:Array Value)(h:H)(R:Value→H→Prop):Prop :=
 (∃ g cap,fv=.func (.func g) #[] cap∧eS P g (args++cap) h R)∨(∃ l,fv=.func (.yield l) #[] #[]∧jo P l args h R)
def opS(P:Program):SOp→Env→H→(KH)→Prop
 | .nop,e,h,K=>K e h
 | .ixA d x i sz,e,h,K =>
  match ev e x,ev e i with
  | .slice A n _,.int _ j=>(0≤j∧j < n)∧∃ a,A=some a∧K (e.set d (.pointer (some (a.add (j.toNat * sz))))) h
  | _,_=>False
 | .sl d x lo hi mx sz,e,h,K =>
  match ev e x with
  | .slice A n c =>
   match bnd e 0 lo,bnd e n hi,bnd e c mx with
   | some l,some u,some m=>(0≤l∧l≤u∧u≤m∧m≤c)∧K (e.set d (.slice (if m.toNat=l.toNat then A else A.map (·.add (l.toNat * sz))) (u.toNat - l.toNat) (m.toNat - l.toNat))) h
   | _,_,_=>False
  | _=>False
 | .alR s z,e,h,K=>K e { h with L:=.reg s z :: rmR s h.L }
 | .bxR s x,e,h,K=>K e { h with L:=.reg s (fm (ev e x)) :: rmR s h.L }
 | .ldR d s o n,e,h,K =>
  match getR s h.L with
  | some cs=>match ldC cs o n with
   | some v=>K (e.set d v) h
   | none=>False
  | none=>False
 | .stR s o n x,e,h,K =>
  match getR s h.L with
  | some cs=>((fm (ev e x)).length=n∧o+n≤cs.length∧(fm (ev e x)).all (·.oneCell')=true)∧K e { h with L:=hO s (eo cs o (fm (ev e x))) h.L }
  | none=>False
 | .al d z,e,h,K=>∀ b,h.G b=none→K (e.set d (.pointer (some ⟨b,0,none⟩))) { h with L:=.blk b z :: h.L }
 | .bx d x,e,h,K=>∀ b,h.G b=none→K (e.set d (.pointer (some ⟨b,0,none⟩))) { h with L:=.blk b (fm (ev e x)) :: h.L }
 | .ld d x n,e,h,K=>∃ v,LdN h (ev e x) n v∧K (e.set d v) h
 | .cvS d x,e,h,K=>∃ s,um h (ev e x) s∧K (e.set d (.string s)) h
 | .bl0 d,e,h,K=>∀ b,h.G b=none→K (e.set d (.slice (some ⟨b,0,none⟩) 0 0)) h
 | .st x n y,e,h,K=>∃ L',StL h.L (ev e x) (fm (ev e y)) L'∧((fm (ev e y)).length=n∧(fm (ev e y)).all (·.oneCell')=true)∧K e { h with L:=L' }
 | .bls d et n sz z ps,e,h,K =>
  match l7 (ps.map fun p=>(p.1,p.2.1,fm (ev e p.2.2))) z with
  | some cs=>cs.length=n * sz∧∀ b,h.G b=none→K (e.set d (.slice (some ⟨b,0,none⟩) n n)) { h with L:=.row (.slice (some ⟨b,0,none⟩) n n) et sz n cs :: h.L }
  | none=>False
 | .apz d et sz nb x y,e,h,K=>∃ n:Nat,(ev e x=.slice none 0 0∧ev e y=.int .i64 n)∧(0 < n∧n * nb≤140737488355328∧n≤maxLen) ∧
   ∀ b c zs,h.G b=none→K (e.set d (.slice (some ⟨b,0,none⟩) n c)) { h with L:=.row (.slice (some ⟨b,0,none⟩) n c) et sz n zs :: h.L }
 | .clr d x z,e,h,K=>∃ A n c L',ev e x=.slice A n c∧((n=0∧L'=h.L)∨∃ b o,(A=some ⟨b,o,none⟩∧∀ u∈z.toList,u.oneCell'=true)∧StL h.L (.pointer (some ⟨b,o,none⟩)) (Builtin.zeroCells z n).toList L')∧K (e.set d (.tuple #[])) { h with L:=L' }
 | .app d x y et sz nb,e,h,K=>∃ L1 n xs L2 m ys,Az h.L (ev e x) et sz L1 n xs L2∧Ex h (ev e y) sz m ys∧((n+m) * nb≤140737488355328∧n+m≤maxLen) ∧
   ∀ A c,K (e.set d (.slice A (n+m) c)) { h with L:=L1++.row (.slice A (n+m) c) et sz (n+m) (xs++ys) :: L2 }
 | .call d f xs,e,h,K=>eS P f (xs.map (ev e)).toArray h fun v h'=>K (e.set d v) h'
 | .cav d f xs,e,h,K=>Jl P (ev e f) (xs.map (ev e)).toArray h fun v h'=>K (e.set d v) h'
 | s,e,h,K =>
  match fz s e with
  | some v=>K (e.set (Ev s) v) h
  | none=>False
def opQ(P:Program):SOp→Env→H→(Env→Prop)→Prop
 | .nop,e,_,K=>K e
 | .ixA d x i sz,e,_,K =>
  match ev e x,ev e i with
  | .slice A n _,.int _ j=>(0≤j∧j < n)∧∃ a,A=some a∧K (e.set d (.pointer (some (a.add (j.toNat * sz)))))
  | _,_=>False
 | .sl d x lo hi mx sz,e,_,K =>
  match ev e x with
  | .slice A n c =>
   match bnd e 0 lo,bnd e n hi,bnd e c mx with
   | some l,some u,some m=>(0≤l∧l≤u∧u≤m∧m≤c)∧K (e.set d (.slice (if m.toNat=l.toNat then A else A.map (·.add (l.toNat * sz))) (u.toNat - l.toNat) (m.toNat - l.toNat)))
   | _,_,_=>False
  | _=>False
 | .ldR d s o n,e,h,K =>
  match getR s h.L with
  | some cs=>match ldC cs o n with
   | some v=>K (e.set d v)
   | none=>False
  | none=>False
 | .ld d x n,e,h,K=>∃ v,LdN h (ev e x) n v∧K (e.set d v)
 | .cvS d x,e,h,K=>∃ s,um h (ev e x) s∧K (e.set d (.string s))
 | .call d f xs,e,h,K=>∃ v,eS P f (xs.map (ev e)).toArray h (fun v' h'=>v'=v∧h'=h)∧K (e.set d v)
 | .cav d f xs,e,h,K=>∃ g cap v,ev e f=.func (.func g) #[] cap∧eS P g ((xs.map (ev e)).toArray++cap) h (fun v' h'=>v'=v∧h'=h)∧K (e.set d v)
 | s,e,_,K =>
  match fz s e with
  | some v=>K (e.set (Ev s) v)
  | none=>False
end Go.Kx
namespace Go.Kx
open Go Go.RowKit
open List (getElem?_eq_getElem mem_of_getElem? length_append append_nil take_length)
def mh(vs:KF)(o:Oper):KI :=
 match o.dst with
 | none=>some 99999
 | some d=>if vs.contains d then none else some d
def ur(vs:KF)(N:Nat):List Operand→Option (List O)
 | []=>some []
 | x :: xs=>(slO vs N x).bind fun y=>(ur vs N xs).map (y :: ·)
def zE(vs:KF)(N:Nat):Option Operand→Option (Option O)
 | none=>some none
 | some x=>(slO vs N x).map some
def jV(vs:KF)(N:Nat)(place:Nat→Option (Nat × Nat)):List (Nat × Operand)→Option (List (Nat × Nat × O))
 | []=>some []
 | (i,x) :: ps=>(place i).bind fun q=>(slO vs N x).bind fun y=>(jV vs N place ps).map ((q.1,q.2,y) :: ·)
def Ad(z:Array Value)(n:Nat):Kt:=((Array.range n).map (z[· % z.size]!)).toList
def I2:Option TypeDesc→Bool
 | some (.int _)=>true
 | _=>false
def Ke:Option TypeDesc→Bool
 | some (.slice _)=>true
 | _=>false
def Kr:Option TypeDesc→Bool
 | some (.int .u8)=>true
 | _=>false
def jN(P:Program)(N:Nat)(vs:KF)(o:Oper):Option SOp :=
 (mh vs o).bind fun d =>
 match o.op with
 | .move x=>(slO vs N x).map (.mv d)
 | .assign x=>(slO vs N x).map (.mv d)
 | .pick c x y=>(slO vs N c).bind fun c=>(slO vs N x).bind fun x=>(slO vs N y).map fun y=>.pick d c x y
 | .binOp op t x y _=>(slO vs N x).bind fun x=>(slO vs N y).bind fun y =>
  match P.underlying t with
  | some (.int _)=>some (.bin d op x y)
  | some .string=>some (.bin d op x y)
  | some .bool=>(match op with | .eql=>some false | .neq=>some true | _=>none).map fun ne=>.eqb d ne x y
  | some (.struct fs)=>(match op with | .eql=>some false | .neq=>some true | _=>none).bind fun ne=>(m4 P 0 fs.toList).bind fun ks =>
   if P.stoodInHeld t=false∧P.eqGuardType P.depth t=false then some (.eqf d ne ks x y)else none
  | some (.array n el)=>(match op with | .eql=>some false | .neq=>some true | _=>none).bind fun ne=>match P.underlying el,P.info? el with
   | some (.int _),some i=>if P.cellsOf el=1∧P.eqGuardType P.depth t=false then some (.eqf d ne (List.replicate n 0) x y)else none
   | _,_=>none
  | some (.pointer el)=>(match op with | .eql=>some false | .neq=>some true | _=>none).bind fun ne=>(P.info? el).bind fun i=>if i.size=0 then none else some (.eqf d ne [3] x y)
  | _=>if Ke (P.underlying t)=true then(match op with | .eql=>some false | .neq=>some true | _=>none).bind fun ne=>match y with | .v (.slice none 0 0)=>some (.isn d ne x) | _=>none else none
 | .unOp op _ x=>(slO vs N x).map fun x=>.un d op x
 | .convert src dst x=>(slO vs N x).bind fun x =>
  match P.underlying src,P.underlying dst with
  | some (.int _),some (.int k)=>some (.cvI d k x)
  | some (.slice el),some .string=>if Kr (P.underlying el)=true then some (.cvS d x)else none
  | _,_=>none
 | .extract x i=>(slO vs N x).map fun x=>.ext d x i
 | .field t x f=>(slO vs N x).bind fun x =>
  match P.underlying t with
  | some (.struct fs)=>(fs[f]?).bind fun fd=>(vo P fd.type).map fun n=>.fld d x fd.offset n
  | _=>none
 | .build t ps =>
  match P.underlying t,(P.info? t).bind (·.zero)with
  | some (.struct fs),some z=>(fs.toList.mapM (fun f=>(P.info? f.type).map fun i=>(f.offset,i.size))).bind fun pl=>(jV vs N (pl.toArray[·]?) ps.toList).map fun qs=>.bld d z.cells.toList qs
  | some (.array _ el),some z=>(P.info? el).bind fun i=>(jV vs N (fun j=>some (j * i.size,i.size)) ps.toList).map fun qs=>.bld d z.cells.toList qs
  | _,_=>none
 | .makeFunc fn first cs=>if first.size=0 then(ur vs N cs.toList).map fun ys=>.mkf d fn ys else none
 | .nilCheck x=>(slO vs N x).map fun x=>.nck d x
 | .fieldAddr t x f=>(slO vs N x).bind fun x =>
  match P.underlying t with
  | some (.struct fs)=>(fs[f]?).bind fun fd=>(P.info? fd.type).bind fun i=>if i.size=0 then none else some (.flA d x fd.offset)
  | _=>none
 | .indexAddr t x i=>(slO vs N x).bind fun x=>(slO vs N i).bind fun i =>
  match P.underlying t with
  | some (.slice el)=>(P.info? el).map fun k=>.ixA d x i k.size
  | some (.array n el)=>(P.info? el).map fun k=>.ixP d x i n k.size
  | _=>none
 | .index t x i=>(slO vs N x).bind fun x=>(slO vs N i).bind fun i =>
  match P.underlying t with
  | some (.array n el)=>(P.info? el).bind fun k=>(vo P el).map fun m=>.ixV d x i n k.size m
  | _=>none
 | .slice t x lo hi mx=>(slO vs N x).bind fun x=>(zE vs N lo).bind fun lo=>(zE vs N hi).bind fun hi=>(zE vs N mx).bind fun mx =>
  match P.underlying t with
  | some (.slice el)=>if mx.isSome=true∧hi.isNone=true then none else(P.info? el).map fun k=>.sl d x lo hi mx k.size
  | _=>none
 | .alloc t=>((P.info? t).bind (·.zero)).map fun z=>.al d z.cells.toList
 | .box _ x=>(slO vs N x).map fun x=>.bx d x
 | .load t x=>(slO vs N x).bind fun x=>(vo P t).map fun n=>.ld d x n
 | .store t x y=>if o.dst.isNone then(slO vs N x).bind fun x=>(slO vs N y).bind fun y=>(P.info? t).map fun i=>.st x i.size y else none
 | .buildSlice t n ps =>
  match P.underlying t with
  | some (.slice el)=>(P.info? el).bind fun i=>i.zero.bind fun z=>(jV vs N (fun j=>some (j * i.size,i.size)) ps.toList).bind fun qs =>
   if n=0∧ps.size=0 then some (.bl0 d)else if n=0∨i.size=0∨n * i.size > 2 ^ 24 then none else some (.bls d el n i.size (Ad z.cells (n * i.size)) qs)
  | _=>none
 | .call c =>
  (ur vs N c.args.toList).bind fun xs =>
  match c.callee with
  | .value (.func f)=>some (.call d f xs)
  | .value (.tmp n)=>(slO vs N (.tmp n)).map fun f=>.cav d f xs
  | .builtin .len =>
   match xs,c.argTypes.toList with
   | [x],[t]=>(match P.underlying t with | some (.slice _)=>some false | some .string=>some true | _=>none).map fun b=>.len d b x
   | _,_=>none
  | .builtin .cap =>
   match xs,c.argTypes.toList with
   | [x],[t]=>(match P.underlying t with | some (.slice _)=>some () | _=>none).map fun _=>.cpc d x
   | _,_=>none
  | .builtin .clear =>
   match xs,c.argTypes.toList with
   | [x],[t] =>
    match P.underlying t with
    | some (.slice el)=>(P.info? el).bind fun i=>i.zero.bind fun z=>if z.cells.size=i.size then some (.clr d x z.cells)else none
    | _=>none
   | _,_=>none
  | .builtin .max=>match xs with | [x,y]=>some (.mm d true x y) | _=>none
  | .builtin .min=>match xs with | [x,y]=>some (.mm d false x y) | _=>none
  | .builtin .append =>
   match xs,c.argTypes.toList with
   | [x,y],[t,tx] =>
    match P.underlying t with
    | some (.slice el)=>(P.info? el).bind fun i=>i.zero.bind fun z =>
     if z.cells.size=i.size then(if I2 (P.underlying tx)=true then(if 0 < i.size then some (.apz d el i.size i.bytes x y)else none)else(match P.underlying tx with | some (.slice _)=>some () | some .string=>some () | _=>none).map fun _=>.app d x y el i.size i.bytes)else none
    | _=>none
   | _,_=>none
  | _=>none
 | _=>none
section sound
variable {r:KI} {P:Program} {N:Nat} {rs vs:KF} {β:Nat→Nat} {a:Act} {w w':World} {e:Env} {h:H} {o:Oper} {X:Act→World→Prop} {Q:Exit→Act→World→Prop}
theorem pc{n f args}{R:Ending→World→Prop}(hc:Calls P f args w R):CallsIn (Fr r) n P f args w R:=callsIn_wide.2 hc
theorem AJ{n l f tmps}{assign body:Code}{R:Ending→World→Prop}(hc:RoundIn (Fr none) n P l f tmps assign body w R):RoundIn (Fr r) n P l f tmps assign body w R:=hc
def eZ(o:Oper):Prop:=∀ c,o.op≠.defer c
theorem kN{v:Value}(hd:eZ o)(hrun:(execOp a.eval o).run P w=.ok (.value v) w')(hx:X (a.put o.dst v) w'):o.wpIn (Fr r) 0 P a w X Q :=
 ⟨fun _ _=>trivial,by rw[Oper.semAt_eq _ _ _ hd,hrun];exact hx⟩
theorem tW(hd:eZ o)(hrun:(execOp a.eval o).run P w=.ok .skip w')(hx:X (a.put o.dst undef) w'):o.wpIn (Fr r) 0 P a w X Q :=
 ⟨fun _ _=>trivial,by rw[Oper.semAt_eq _ _ _ hd,hrun];exact hx⟩
theorem zF{f:FuncId}{args:Array Value}(hd:eZ o)(hrun:(execOp a.eval o).run P w=.ok (.enter f args) w')(hx:Calls P f args w' fun x w''=>∃ v,x=.returned v∧X (a.put o.dst v) w''):o.wpIn (Fr r) 0 P a w X Q :=
 ⟨fun _ _=>trivial,by
  rw[Oper.semAt_eq _ _ _ hd,hrun]
  refine⟨fun hh=>by simp[Fr,Fence.wide]at hh,(pc hx).mono ?_⟩
  rintro x w'' ⟨v,rfl,h⟩
  exact h⟩
theorem zC{l f:Nat}{tmps:Array Value}{assign body:Code}(hd:eZ o)(hrun:(execOp a.eval o).run P w=.ok (.round l f tmps assign body) w')(hx:RoundIn (Fr none) 0 P l f tmps assign body w' fun x w''=>∃ v,x=.returned v∧X (a.put o.dst v) w''):o.wpIn (Fr r) 0 P a w X Q :=
 ⟨fun _ _=>trivial,by
  rw[Oper.semAt_eq _ _ _ hd,hrun]
  refine⟨fun hh=>by simp[Fr,Fence.wide]at hh,(AJ hx).mono ?_⟩
  rintro x w'' ⟨v,rfl,h⟩
  exact h⟩
theorem Rel.put{d:Nat}(hr:Rel r N rs vs β a e h)(hN:N≤99999)(hd:mh vs o=some d)(v:Value):Rel r N rs vs β (a.put o.dst v) (e.set d v) h:=by
 unfold mh at hd;split at hd
 ·rename_i ho;cases hd;rw[ho];exact⟨hr.size,fun i hi hv=>by simp only[Env.set];rw[if_neg (by omega)];exact hr.env i hi hv,hr.reg,hr.dfr⟩
 ·rename_i d' ho;split at hd
  ·cases hd
  ·rename_i hv;cases hd;rw[ho];refine⟨by simp[Act.put,hr.size],fun i hi hv'=>?_,fun s cs hs=>?_,hr.dfr⟩
   ·simp only[Act.put,Env.set,Array.getD_eq_getD_getElem?,Array.getElem?_setIfInBounds];by_cases he:d=i
    ·subst he;simp[hr.size,hi]
    ·have:=hr.env i hi hv';simp only[Array.getD_eq_getD_getElem?]at this;rw[if_neg he,if_neg (Ne.symm he)];exact this
   ·obtain⟨h1,h2,h3⟩:=hr.reg s cs hs;refine⟨h1,h2,?_⟩;have hne:¬ d=s:=fun he=>hv (by subst he;simpa using h1.2)
    simp only[Act.put,Array.getD_eq_getD_getElem?,Array.getElem?_setIfInBounds]at h3 ⊢;rw[if_neg hne];exact h3
theorem Rel.to{h':H}(hr:Rel r N rs vs β a e h)(hL:∀ s cs,Item.reg s cs∈h'.L→∃ cs',Item.reg s cs'∈h.L)(hD:h'.D=h.D):Rel r N rs vs β a e h' :=
 ⟨hr.size,hr.env,fun s cs hs=>by obtain⟨cs',hs'⟩:=hL s cs hs;exact hr.reg s cs' hs',by rw[hD];exact hr.dfr⟩
theorem Rel.put'(hr:Rel r N rs vs β a e h)(ho:o.dst=none)(v:Value):Rel r N rs vs β (a.put o.dst v) e h:=by rw[ho];exact hr
theorem kn(hr:Rel r N rs vs β a e h):∀ {xs:List Operand} {ys:List O},ur vs N xs=some ys→xs.map a.eval=ys.map (ev e)
 | [],ys,hx=>by simp only[ur,Option.some.injEq]at hx;subst hx;rfl
 | x :: xs,ys,hx=>by
  simp only[ur,Option.bind_eq_some_iff,Option.map_eq_some_iff]at hx;obtain⟨y,hy,ys',hys,rfl⟩:=hx;simp[eM hr hy,kn hr hys]
theorem iK(hr:Rel r N rs vs β a e h){x:Option Operand}{y:Option O}(hx:zE vs N x=some y):x.map a.eval=y.map (ev e):=by
 cases x with
 | none=>simp only[zE,Option.some.injEq]at hx;subst hx;rfl
 | some x =>
  simp only[zE,Option.map_eq_some_iff]at hx;obtain⟨y',hy,rfl⟩:=hx;simp[eM hr hy]
theorem mr(hr:Rel r N rs vs β a e h)(place:Nat→Option (Nat × Nat)):∀ (ps:List (Nat × Operand)) (qs:List (Nat × Nat × O)),jV vs N place ps=some qs →
  (ps.map fun(p:Nat × Operand)=>(p.1,a.eval p.2)).length=(qs.map fun p=>(p.1,p.2.1,fm (ev e p.2.2))).length ∧
  ∀ (j i:Nat) (v:Value),(ps.map fun(p:Nat × Operand)=>(p.1,a.eval p.2))[j]?=some (i,v)→∃ o n,place i=some (o,n)∧(qs.map fun p=>(p.1,p.2.1,fm (ev e p.2.2)))[j]?=some (o,n,v.cells.toList)
 | [],qs,hx=>by simp only[jV,Option.some.injEq]at hx;subst hx;simp
 | (i,x) :: ps,qs,hx=>by
  simp only[jV,Option.bind_eq_some_iff,Option.map_eq_some_iff]at hx;obtain⟨q,hq,y,hy,qs',hqs,rfl⟩:=hx;obtain⟨h1,h2⟩:=mr hr place ps qs' hqs;refine⟨by simpa using h1,fun j i' v hj=>?_⟩;cases j with
  | zero =>
   simp only[List.map_cons,List.getElem?_cons_zero,Option.some.injEq,Prod.mk.injEq]at hj;obtain⟨rfl,rfl⟩:=hj;exact⟨q.1,q.2,hq,by simp[fm,eM hr hy]⟩
  | succ j=>simpa using h2 j i' v (by simpa using hj)
end sound
end Go.Kx
namespace Go.Kx
open Go Go.RowKit
open List (getElem?_eq_getElem mem_of_getElem? length_append append_nil take_length)
section sound
variable {r:KI} {P:Program} {N:Nat} {rs vs:KF} {β:Nat→Nat} {a:Act} {w:World} {e:Env} {h:H} {o:Oper} {K:KH} {Q:Exit→Act→World→Prop} {s:SOp} {d:Nat}
def xI(r:KI)(N:Nat)(rs vs:KF)(β:Nat→Nat)(a:Act)(e:Env)(o:Oper)(h:H)(w:World)(K:KH):Act→World→Prop :=
 fun a' w'=>∃ e' h',Rel r N rs vs β a' e' h'∧Sat β h' w'∧Step β h w β h' w'∧((∀ i∈vs,a'.tmps.getD i undef=a.tmps.getD i undef)∧∀ i,i < 99999→o.dst≠some i→e' i=e i)∧K e' h'
theorem gI(hd:mh vs o=some d)(v:Value):(∀ i∈vs,(a.put o.dst v).tmps.getD i undef=a.tmps.getD i undef)∧∀ i,i < 99999→o.dst≠some i→(e.set d v) i=e i:=by
 unfold mh at hd;split at hd
 ·rename_i ho;cases hd;rw[ho];refine⟨fun _ _=>rfl,?_⟩;intro i hi _;simp only[Env.set];split
  ·rename_i he;exact absurd hi (by rw[he];exact Nat.lt_irrefl _)
  ·rfl
 ·rename_i d' ho;split at hd
  ·cases hd
  ·rename_i hv;cases hd;rw[ho];refine⟨fun i hi=>?_,fun i _ hne=>?_⟩
   ·have hne:¬ d=i:=fun he=>hv (by subst he;simpa using hi)
    simp only[Act.put,Array.getD_eq_getD_getElem?,Array.getElem?_setIfInBounds];rw[if_neg hne]
   ·simp only[Env.set];rw[if_neg (fun he=>hne (by rw[he]))]
theorem lL(hN:N≤99999)(hr:Rel r N rs vs β a e h)(hw:Sat β h w)(hd:mh vs o=some d)(hdef:eZ o){v:Value}(hrun:(execOp a.eval o).run P w=.ok (.value v) w)(hk:K (e.set d v) h):
  o.wpIn (Fr r) 0 P a w (xI r N rs vs β a e o h w K) Q :=
 kN hdef hrun ⟨_,_,hr.put hN hd v,hw,.refl _ _ _,gI hd v,hk⟩
theorem kC(hN:N≤99999)(hr:Rel r N rs vs β a e h)(hd:mh vs o=some d)(hdef:eZ o){v:Value}{w':World}{h':H}(hrun:(execOp a.eval o).run P w=.ok (.value v) w')
  (hw:Sat β h' w'∧Step β h w β h' w') (hL:∀ s cs,Item.reg s cs∈h'.L→∃ cs',Item.reg s cs'∈h.L) (hD:h'.D=h.D) (hk:K (e.set d v) h') :
  o.wpIn (Fr r) 0 P a w (xI r N rs vs β a e o h w K) Q :=
 kN hdef hrun ⟨_,_,(hr.put hN hd v).to hL hD,hw.1,hw.2,gI hd v,hk⟩
theorem nq{c:Call}(ho:o.op=.call c){f:Operand}{xs:List O}(hr:Rel r N rs vs β a e h)(hc:c.callee=.value f)(hxs:ur vs N c.args.toList=some xs){g:Nat}{cap:Array Value}(hf:a.eval f=.func (.func g) #[] cap)
  (hE:iy P g):(execOp a.eval o).run P w=.ok (.enter g ((xs.map (ev e)).toArray++cap)) w:=by
 have hm:c.args.map a.eval=(xs.map (ev e)).toArray:=by
  have:=kn hr hxs;apply Array.ext';rw[Array.toList_map,this]
 simp only[execOp,ho,resolve,hc,hm,hf,Deferred.ofValue,Sem.run_bind,Sem.run_pure,Result.andThen_ok,invoke,Array.empty_append];exact hE _ _
theorem qY(hN:N≤99999)(hr:Rel r N rs vs β a e h)(hw:Sat β h w)(hd:mh vs o=some d)(hdef:eZ o){g:Nat}{args:Array Value}(hrun:(execOp a.eval o).run P w=.ok (.enter g args) w)
  (hk:eS P g args h fun v h'=>K (e.set d v) h'):o.wpIn (Fr r) 0 P a w (xI r N rs vs β a e o h w K) Q:=by
 refine zF hdef hrun ((hk.2 β w hw).mono ?_);rintro x w' ⟨v,h',rfl,⟨hD,hR⟩,hs,st,hk⟩;exact⟨v,rfl,_,_,(hr.put hN hd v).to hR hD,hs,st,gI hd v,hk⟩
theorem Dt(hN:N≤99999)(hr:Rel r N rs vs β a e h)(hw:Sat β h w)(hd:mh vs o=some d)(hdef:eZ o){c:Call}(ho:o.op=.call c){f:Operand}{xs:List O}(hc:c.callee=.value f)(hxs:ur vs N c.args.toList=some xs)
  (hk:Jl P (a.eval f) (xs.map (ev e)).toArray h fun v h'=>K (e.set d v) h'):o.wpIn (Fr r) 0 P a w (xI r N rs vs β a e o h w K) Q:=by
 rcases hk with⟨g,cap,hf,hk⟩ | ⟨l,hf,hk⟩
 ·exact qY hN hr hw hd hdef (nq ho hr hc hxs hf hk.1) hk
 ·obtain⟨fn,tmps,assign,body,hy,hR⟩:=hk β w hw;have hm:c.args.map a.eval=(xs.map (ev e)).toArray:=by
   have:=kn hr hxs;apply Array.ext';rw[Array.toList_map,this]
  refine zC (w':=w) hdef (l:=l) (f:=fn) (tmps:=tmps) (assign:=assign) (body:=body) ?_ (hR.mono ?_)
  ·simp only[execOp,ho,resolve,hc,hm,hf,Deferred.ofValue,Sem.run_bind,Sem.run_pure,Result.andThen_ok,invoke,Array.empty_append];exact hy
  ·rintro x w' ⟨v,h',rfl,⟨hD,hR⟩,hs,st,hk⟩;exact⟨v,rfl,_,_,(hr.put hN hd v).to hR hD,hs,st,gI hd v,hk⟩
theorem ft{t:TypeId}{i:TypeInfo}(hi:P.info? t=some i)(w:World):(sizeOf t).run P w=.ok i.size w:=by simp[sizeOf,typeInfo,hi]
theorem px{t:TypeId}{i:TypeInfo}{z:Value}(hi:P.info? t=some i)(hz:i.zero=some z)(w:World):(zeroValue t).run P w=.ok z w:=by simp[zeroValue,typeInfo,hi,hz]
theorem rq{t:TypeId}{n:KI}(hn:vo P t=some n)(w:World):(isAgg t).run P w=.ok n.isSome w∧∃ i,P.info? t=some i∧∀ k,n=some k→k=i.size:=by
 unfold vo at hn;split at hn
 ·rename_i i hu hi;cases hn;exact⟨by simp[isAgg,run_underlying hu],i,hi,fun k hk=>by injection hk with hk;exact hk.symm⟩
 ·rename_i i hu hi;cases hn;exact⟨by simp[isAgg,run_underlying hu],i,hi,fun k hk=>by injection hk with hk;exact hk.symm⟩
 ·rename_i d i hd1 hd2 hu hi;split at hn
  ·cases hn;refine⟨?_,i,hi,fun k hk=>by cases hk⟩;simp only[isAgg,Sem.run_bind,run_underlying hu,Result.andThen_ok];cases d <;> first | rfl | exact absurd rfl (hd1 _ _ ‹_›) | skip
   all_goals simp_all
  ·cases hn
 ·cases hn
def Cl:Op→Bool
 | .defer _=>true
 | _=>false
theorem nd{x:Op}(ho:o.op=x)(hx:Cl x=false):eZ o:=fun c hc=>by rw[ho]at hc;subst hc;cases hx
theorem pP{t el:TypeId}{A:Ky}{n c:Nat}(hu:P.underlying t=some (.slice el)):(Op.equalIn Op.maxDepth t (.slice A n c) (.slice none 0 0)).run P w=.ok A.isNone w:=by
 show(Op.equalIn (9999+1) t (.slice A n c) (.slice none 0 0)).run P w=.ok A.isNone w;generalize 9999=dd;cases A <;> simp only[Op.equalIn,Sem.run_bind,run_underlying hu,Result.andThen_ok] <;> rfl
theorem CD{fs:List Field}{o:Nat}{ks:KF}(h:m4 P o fs=some ks):¬ ks=[3]:=fun he=>by
 subst he;cases fs with
 | nil=>simp[m4]at h
 | cons f fs =>
  simp only[m4]at h;split at h
  ·split at h <;> simp at h
  ·cases h
theorem FP(n:Nat):¬ List.replicate n 0=[3]:=fun h=>by
 match n with
 | 0=>cases h
 | 1=>cases h
 | n+2=>cases h
theorem DV{t el:TypeId}{i:TypeInfo}{A B:Ky}{q:Bool}(hu:P.underlying t=some (.pointer el))(hi:P.info? el=some i)(hz:¬ i.size=0)(h:eqA A B=some q):(Op.equalIn 10000 t (.pointer A) (.pointer B)).run P w=.ok q w:=by
 have hsz:(sizeOf el).run P w=.ok i.size w:=by simp[sizeOf,typeInfo,program,hi,Sem.run,bind,Sem.bind,pure]
 show(Op.equalIn (9999+1) t (.pointer A) (.pointer B)).run P w=.ok q w;generalize 9999=dd;cases A with
 | none =>
  cases B with
  | none=>simp[eqA]at h;subst h;simp[Op.equalIn,run_underlying hu]
  | some b=>simp[eqA]at h;subst h;simp[Op.equalIn,run_underlying hu]
 | some a =>
  cases B with
  | none=>simp[eqA]at h;subst h;simp[Op.equalIn,run_underlying hu]
  | some b =>
   simp only[eqA]at h;split at h
   ·rename_i hb;cases h;simp[Op.equalIn,run_underlying hu,hsz,hz,sameAddr,hb]
   ·cases h
set_option maxHeartbeats 1000000 in
theorem mq(hs:jN P N vs o=some s)(hr:Rel r N rs vs β a e h){v:Value}(hv:fz s e=some v):eZ o∧mh vs o=some (Ev s)∧(execOp a.eval o).run P w=.ok (.value v) w:=by
 unfold jN at hs;simp only[Option.bind_eq_some_iff]at hs;obtain⟨d,hd,hs⟩:=hs;cases ho:o.op <;> simp only[ho]at hs <;> try (cases hs;done)
 case move x =>
  simp only[Option.map_eq_some_iff]at hs;obtain⟨y,hy,rfl⟩:=hs;simp only[fz,Option.some.injEq]at hv;subst hv;exact⟨nd ho rfl,hd,by simp[execOp,ho,eM hr hy]⟩
 case assign x =>
  simp only[Option.map_eq_some_iff]at hs;obtain⟨y,hy,rfl⟩:=hs;simp only[fz,Option.some.injEq]at hv;subst hv;exact⟨nd ho rfl,hd,by simp[execOp,ho,eM hr hy]⟩
 case pick c x y =>
  simp only[Option.bind_eq_some_iff,Option.map_eq_some_iff]at hs;obtain⟨c',hc,x',hx,y',hy,rfl⟩:=hs;simp only[fz,ov]at hv;split at hv
  ·rename_i t ht;cases hv;exact⟨nd ho rfl,hd,by simp[execOp,ho,eM hr hx,eM hr hy,eM hr hc,ht,asBool,pm]⟩
  ·cases hv
 case binOp op t x y ty =>
  simp only[Option.bind_eq_some_iff]at hs;obtain⟨x',hx,y',hy,hs⟩:=hs;have hbin:∀ v,fq op (ev e x') (ev e y')=some v→(execOp a.eval o).run P w=.ok (.value v) w:=by
   intro v hb;have hg:(eqGuard op t x y (ev e x') (ev e y')).run P w=.ok () w:=by
    unfold fq at hb;split at hb
    ·rename_i h1 h2;rw[h1,h2];simp only[eqGuard];cases op <;> rfl
    ·rename_i h1 h2;rw[h1,h2];simp only[eqGuard];cases op <;> rfl
    ·cases hb
   simp only[execOp,ho,eM hr hx,eM hr hy,Sem.run_bind,hg,Result.andThen_ok,AH w hb];rfl
  split at hs
  ·cases hs;exact⟨nd ho rfl,hd,hbin v hv⟩
  ·cases hs;exact⟨nd ho rfl,hd,hbin v hv⟩
  ·rename_i hu;simp only[Option.map_eq_some_iff]at hs;obtain⟨ne,hne,rfl⟩:=hs;refine⟨nd ho rfl,hd,?_⟩;simp only[fz,EL]at hv;split at hv
   ·rename_i p q hp hq;cases hv;have he:=run_equalIn_bool' (P:=P) w 9999 t p q hu;cases op <;> simp only at hne <;> cases hne <;>
     simp[execOp,ho,eM hr hx,eM hr hy,hp,hq,eqGuard,binOp,Op.equal,Op.maxDepth,he]
   ·cases hv
  ·rename_i fs hu;simp only[Option.bind_eq_some_iff]at hs;obtain⟨ne,hne,ks,hks,hs⟩:=hs;split at hs
   ·rename_i hst;cases hs;refine⟨nd ho rfl,hd,?_⟩;simp only[fz,AW]at hv;split at hv
    ·rename_i xs ys hp hq;simp only[Option.map_eq_some_iff]at hv;obtain⟨t',ht',rfl⟩:=hv;have hf:P.fieldsOf t=fs:=by simp[Program.fieldsOf,hu]
     have h1:=wd (P:=P) 9998 xs.toList ys.toList w fs.toList ks 0 t' hks (by simpa using ht');have h2:=run_equalIn_struct (P:=P) w 9999 t xs ys (by rw[hf];exact hu) hst.1;rw[hf]at h2;have h3:(Op.equalIn 10000 t (.agg xs) (.agg ys)).run P w=.ok t' w:=by rw[h2];simpa using h1
     have hg:(eqGuard op t x y (.agg xs) (.agg ys)).run P w=.ok () w:=by
      unfold eqGuard;cases op <;> simp only at hne <;> cases hne <;> simp[program,Sem.run,hst.2,bind,Sem.bind,pure]
     simp only[execOp,ho,Sem.run_bind,eM hr hx,eM hr hy,hp,hq,hg,Result.andThen_ok];cases op <;> simp only at hne <;> cases hne <;> simp[binOp,Op.equal,Op.maxDepth,h3]
    ·rw[if_neg (CD hks)]at hv;cases hv
    ·cases hv
   ·cases hs
  ·rename_i n el hu;simp only[Option.bind_eq_some_iff]at hs;obtain⟨ne,hne,hs⟩:=hs;split at hs
   ·rename_i kk i hel hi;split at hs
    ·rename_i hst;cases hs;refine⟨nd ho rfl,hd,?_⟩;simp only[fz,AW]at hv;split at hv
     ·rename_i xs ys hp hq;simp only[Option.map_eq_some_iff]at hv;obtain⟨t',ht',rfl⟩:=hv;have h1:=vO (P:=P) 9998 xs ys w hel (List.range n) 0 t' (by simp[List.range_eq_range']) (by simpa using ht');have h2:=run_equalIn_array (P:=P) w 9999 xs ys hu hi;rw[hst.1]at h2;have h3:(Op.equalIn 10000 t (.agg xs) (.agg ys)).run P w=.ok t' w:=by rw[h2];exact h1
      have hg:(eqGuard op t x y (.agg xs) (.agg ys)).run P w=.ok () w:=by
       unfold eqGuard;cases op <;> simp only at hne <;> cases hne <;> simp[program,Sem.run,hst.2,bind,Sem.bind,pure]
      simp only[execOp,ho,Sem.run_bind,eM hr hx,eM hr hy,hp,hq,hg,Result.andThen_ok];cases op <;> simp only at hne <;> cases hne <;> simp[binOp,Op.equal,Op.maxDepth,h3]
     ·rw[if_neg (FP n)]at hv;cases hv
     ·cases hv
    ·cases hs
   ·cases hs
  ·rename_i el hu;simp only[Option.bind_eq_some_iff]at hs;obtain⟨ne,hne,i,hi,hs⟩:=hs;split at hs
   ·cases hs
   rename_i hz;cases hs;refine⟨nd ho rfl,hd,?_⟩;simp only[fz,AW]at hv;split at hv
   ·rename_i xs ys hp hq;simp only[Option.map_eq_some_iff]at hv;obtain⟨t',ht',rfl⟩:=hv;cases hxs:xs.toList <;> cases hys:ys.toList <;> rw[hxs,hys]at ht' <;> simp[eqC]at ht'
   ·rename_i A B hp hq;simp only[if_true]at hv;simp only[Option.map_eq_some_iff]at hv;obtain⟨t',ht',rfl⟩:=hv;have he:=DV (w:=w) hu hi hz ht';have hg:(eqGuard op t x y (.pointer A) (.pointer B)).run P w=.ok () w:=by
     simp only[eqGuard];cases op <;> rfl
    simp only[execOp,ho,eM hr hx,eM hr hy,hp,hq,Sem.run_bind,hg,Result.andThen_ok];cases op <;> simp only at hne <;> cases hne <;> simp[binOp,Op.equal,Op.maxDepth,he]
   ·cases hv
  ·split at hs
   ·rename_i hsl;obtain⟨el,hu⟩:∃ el,P.underlying t=some (.slice el):=by
     cases hq:P.underlying t with
     | none=>rw[hq]at hsl;cases hsl
     | some dd=>rw[hq]at hsl;cases dd <;> first | exact⟨_,rfl⟩ | cases hsl
    simp only[Option.bind_eq_some_iff]at hs;obtain⟨ne,hne,hs⟩:=hs;split at hs
    ·rename_i hyv;cases hs;refine⟨nd ho rfl,hd,?_⟩;simp only[fz,Dg]at hv;split at hv
     ·rename_i A n c hA;cases hv;have hy2:a.eval y=.slice none 0 0:=eM hr hy;have he:=pP (P:=P) (w:=w) (A:=A) (n:=n) (c:=c) hu;have hg:(eqGuard op t x y (.slice A n c) (.slice none 0 0)).run P w=.ok () w:=by
       simp only[eqGuard];cases op <;> rfl
      simp only[execOp,ho,eM hr hx,hy2,hA,Sem.run_bind,hg,Result.andThen_ok];cases op <;> simp only at hne <;> cases hne <;>
       simp only[binOp,Op.equal,Sem.run_bind,he,Result.andThen_ok,Sem.run_pure] <;> cases A <;> rfl
     ·cases hv
    ·cases hs
   ·cases hs
 case unOp op ty x =>
  simp only[Option.map_eq_some_iff]at hs;obtain⟨x',hx,rfl⟩:=hs;simp only[fz]at hv;refine⟨nd ho rfl,hd,?_⟩;simp only[execOp,ho,eM hr hx,Sem.run_bind,BR w hv,Result.andThen_ok];rfl
 case convert src dst x =>
  simp only[Option.bind_eq_some_iff]at hs;obtain⟨x',hx,hs⟩:=hs;split at hs
  ·rename_i k0 k h1 h2;cases hs;simp only[fz,cvI]at hv;split at hv
   ·rename_i kk n hn;cases hv;exact⟨nd ho rfl,hd,by simp[execOp,ho,eM hr hx,hn,convert,run_underlying h1,run_underlying h2,Conv.intToInt]⟩
   ·cases hv
  ·split at hs
   ·cases hs;simp[fz]at hv
   ·cases hs
  ·cases hs
 case extract x i =>
  simp only[Option.map_eq_some_iff]at hs;obtain⟨x',hx,rfl⟩:=hs;simp only[fz,Ew]at hv;split at hv
  ·rename_i xs hxs;have hv':xs[i]?=some v:=by simpa using hv
   exact⟨nd ho rfl,hd,by simp[execOp,ho,eM hr hx,hxs,Instr.extract,hv']⟩
  ·cases hv
 case field t x f =>
  simp only[Option.bind_eq_some_iff]at hs;obtain⟨x',hx,hs⟩:=hs;split at hs
  ·rename_i fs hu;simp only[Option.bind_eq_some_iff,Option.map_eq_some_iff]at hs;obtain⟨fd,hfd,n,hn,rfl⟩:=hs;simp only[fz,vm]at hv;obtain⟨hagg,i,hi,hk⟩:=rq hn w;refine⟨nd ho rfl,hd,?_⟩;split at hv
   ·rename_i cs hcs;cases n with
    | none =>
     have hv':cs[fd.offset]?=some v:=by simpa using hv
     simp[execOp,ho,eM hr hx,hcs,Instr.field,run_underlying hu,hfd,asAgg,part,hagg,hv']
    | some k =>
     simp only[Option.some.injEq]at hv;subst hv;have:=hk k rfl;simp[execOp,ho,eM hr hx,hcs,Instr.field,run_underlying hu,hfd,asAgg,part,hagg,ft hi,← this];apply Array.ext';simp
   ·cases hv
  ·cases hs
 case build t ps =>
  have key:∀ (place:Nat→Option (Nat × Nat)) (z:Value) (qs:List (Nat × Nat × O)),jV vs N place ps.toList=some qs→(∀ pv c,Instr.fill place z.cells pv=some c→P.built t pv=some c)→s=.bld d z.cells.toList qs →
    eZ o∧mh vs o=some (Ev s)∧(execOp a.eval o).run P w=.ok (.value v) w:=by
   rintro place z qs hqs hb rfl;simp only[fz,Option.map_eq_some_iff]at hv;obtain⟨cs,hcs,rfl⟩:=hv;refine⟨nd ho rfl,hd,?_⟩;have h1:=po place (ps.toList.map fun(p:Nat × Operand)=>(p.1,a.eval p.2)) _ z.cells.toList cs (mr hr place ps.toList qs hqs) hcs;have h2:=hb _ _ (by simpa using h1);have h3:=run_build (P:=P) w t (ps.map fun(i,x)=>(i,a.eval x)) cs.toArray (by rw[Array.toList_map];exact h2)
   simp only[execOp,ho,Sem.run_bind,h3,Result.andThen_ok];rfl
  split at hs
  ·rename_i fs z hu hz;obtain⟨i,hi,hz⟩:=Option.bind_eq_some_iff.1 hz;simp only[Option.bind_eq_some_iff,Option.map_eq_some_iff]at hs;obtain⟨pl,hpl,qs,hqs,rfl⟩:=hs;exact key _ z qs hqs (fun pv c hc=>by simp only[Program.built,hi,hu,hz,hpl];exact hc) rfl
  ·rename_i n el z hu hz;obtain⟨i,hi,hz⟩:=Option.bind_eq_some_iff.1 hz;simp only[Option.bind_eq_some_iff,Option.map_eq_some_iff]at hs;obtain⟨ie,hie,qs,hqs,rfl⟩:=hs;exact key _ z qs hqs (fun pv c hc=>by simp only[Program.built,hi,hu,hz,hie];exact hc) rfl
  ·cases hs
 case makeFunc fn first cs =>
  split at hs
  ·rename_i hf;simp only[Option.map_eq_some_iff]at hs;obtain⟨ys,hys,rfl⟩:=hs;simp only[fz,Option.some.injEq]at hv;subst hv;have hm:cs.map a.eval=(ys.map (ev e)).toArray:=by
    apply Array.ext';rw[Array.toList_map,kn hr hys]
   have hf':first=#[]:=Array.eq_empty_of_size_eq_zero hf
   exact⟨nd ho rfl,hd,by simp[execOp,ho,Instr.makeFunc,hm,hf']⟩
  ·cases hs
 case nilCheck x =>
  simp only[Option.map_eq_some_iff]at hs;obtain⟨x',hx,rfl⟩:=hs;simp only[fz,GA]at hv;refine⟨nd ho rfl,hd,?_⟩;split at hv
  ·rename_i ad had;cases hv;simp[execOp,ho,eM hr hx,had]
  ·rename_i g p q had;cases hv;simp[execOp,ho,eM hr hx,had]
  ·cases hv
 case fieldAddr t x f =>
  simp only[Option.bind_eq_some_iff]at hs;obtain⟨x',hx,hs⟩:=hs;split at hs
  ·rename_i fs hu;simp only[Option.bind_eq_some_iff]at hs;obtain⟨fd,hfd,i,hi,hs⟩:=hs;split at hs
   ·cases hs
   ·rename_i hne;cases hs;simp only[fz,EV]at hv;refine⟨nd ho rfl,hd,?_⟩;split at hv
    ·rename_i ad had;cases hv;simp[execOp,ho,eM hr hx,had,Instr.fieldAt,run_underlying hu,hfd,Instr.sureAddr,fieldPlace,ft hi,hne]
    ·cases hv
  ·cases hs
 case indexAddr t x i =>
  simp only[Option.bind_eq_some_iff]at hs;obtain⟨x',hx,i',hi',hs⟩:=hs;split at hs
  ·simp only[Option.map_eq_some_iff]at hs;obtain⟨_,_,rfl⟩:=hs;simp[fz]at hv
  ·rename_i n el hu;simp only[Option.map_eq_some_iff]at hs;obtain⟨k,hk,rfl⟩:=hs;simp only[fz,vh]at hv;split at hv
   ·rename_i ad kk j h1 h2;split at hv
    ·rename_i hb;cases hv;refine⟨nd ho rfl,hd,?_⟩;simp[execOp,ho,eM hr hx,eM hr hi',h1,h2,Instr.indexAt,asIntOf,run_underlying hu,Instr.sureAddr,hb.1,hb.2,ft hk]
    ·cases hv
   ·cases hv
  ·cases hs
 case index t x i =>
  simp only[Option.bind_eq_some_iff]at hs;obtain⟨x',hx,i',hi',hs⟩:=hs;split at hs
  ·rename_i n el hu;simp only[Option.bind_eq_some_iff,Option.map_eq_some_iff]at hs;obtain⟨k,hk,m,hm,rfl⟩:=hs;simp only[fz,xp]at hv;obtain⟨hagg,i0,hi0,hk0⟩:=rq hm w;rw[hk]at hi0;cases hi0;split at hv
   ·rename_i cs kk j h1 h2;split at hv
    ·rename_i hb;refine⟨nd ho rfl,hd,?_⟩;simp only[vm]at hv;cases m with
     | none =>
      have hv':cs[j.toNat * k.size]?=some v:=by simpa using hv
      simp[execOp,ho,eM hr hx,eM hr hi',h1,h2,Instr.index,asIntOf,run_underlying hu,hb.1,hb.2,ft hk,part,hagg,hv']
     | some q =>
      simp only[Option.some.injEq]at hv;subst hv;have:=hk0 q rfl;simp[execOp,ho,eM hr hx,eM hr hi',h1,h2,Instr.index,asIntOf,run_underlying hu,hb.1,hb.2,ft hk,part,hagg,← this];apply Array.ext';simp
    ·cases hv
   ·cases hv
  ·cases hs
 case call c =>
  simp only[Option.bind_eq_some_iff]at hs;obtain⟨xs,hxs,hs⟩:=hs;have hm:c.args.map a.eval=(xs.map (ev e)).toArray:=by
   have:=kn hr hxs;apply Array.ext';rw[Array.toList_map,this]
  refine⟨nd ho rfl,?_⟩;split at hs
  ·cases hs;simp[fz]at hv
  ·simp only[Option.map_eq_some_iff]at hs;obtain⟨_,_,rfl⟩:=hs;simp[fz]at hv
  ·rename_i hc;split at hs
   ·rename_i x t ht;simp only[Option.map_eq_some_iff]at hs;obtain⟨u,hu,rfl⟩:=hs;refine⟨hd,?_⟩;simp only[fz]at hv;have ht':c.argTypes=#[t]:=by apply Array.ext';simpa using ht
    split at hu
    ·rename_i el hel;cases hu;unfold Ey at hv;split at hv
     ·rename_i A n cc hA;cases hv;simp[execOp,ho,resolve,hc,hm,invoke,builtin,Builtin.len_,ht',hA,run_underlying hel,goInt]
     ·contradiction
     ·cases hv
    ·rename_i hel;cases hu;unfold Ey at hv;split at hv
     ·contradiction
     ·rename_i ss hA;cases hv;simp[execOp,ho,resolve,hc,hm,invoke,builtin,Builtin.len_,ht',hA,run_underlying hel,goInt]
     ·cases hv
    ·cases hu
   ·cases hs
  ·rename_i hc;split at hs
   ·rename_i x t ht;simp only[Option.map_eq_some_iff]at hs;obtain⟨u,hu,rfl⟩:=hs;refine⟨hd,?_⟩;simp only[fz]at hv;have ht':c.argTypes=#[t]:=by apply Array.ext';simpa using ht
    split at hu
    ·rename_i el hel;unfold Fi at hv;split at hv
     ·rename_i A n cc hA;cases hv;simp[execOp,ho,resolve,hc,hm,invoke,builtin,Builtin.cap_,ht',hA,run_underlying hel,goInt]
     ·cases hv
    ·cases hu
   ·cases hs
  ·split at hs
   ·split at hs
    ·simp only[Option.bind_eq_some_iff]at hs;obtain⟨_,_,_,_,hs⟩:=hs;split at hs
     ·cases hs;simp[fz]at hv
     ·cases hs
    ·cases hs
   ·cases hs
  ·rename_i hc;split at hs
   ·cases hs;refine⟨hd,?_⟩;rename_i x y;simp only[fz,mmV]at hv;split at hv
    ·rename_i k p k' q hp hq;cases hv;simp[execOp,ho,resolve,hc,hm,invoke,builtin,Builtin.max_,hp,hq,Builtin.max2]
    ·cases hv
   ·cases hs
  ·rename_i hc;split at hs
   ·cases hs;refine⟨hd,?_⟩;rename_i x y;simp only[fz,mmV]at hv;split at hv
    ·rename_i k p k' q hp hq;cases hv;simp[execOp,ho,resolve,hc,hm,invoke,builtin,Builtin.min_,hp,hq,Builtin.min2]
    ·cases hv
   ·cases hs
  ·split at hs
   ·split at hs
    ·simp only[Option.bind_eq_some_iff]at hs;obtain⟨_,_,_,_,hs⟩:=hs;split at hs
     ·split at hs
      ·split at hs
       ·cases hs;simp[fz]at hv
       ·cases hs
      ·simp only[Option.map_eq_some_iff]at hs;obtain⟨_,_,rfl⟩:=hs;simp[fz]at hv
     ·cases hs
    ·cases hs
   ·cases hs
  ·cases hs
 all_goals exfalso
 case alloc t=>simp only[Option.map_eq_some_iff]at hs;obtain⟨_,_,rfl⟩:=hs;simp[fz]at hv
 case box t x=>simp only[Option.map_eq_some_iff]at hs;obtain⟨_,_,rfl⟩:=hs;simp[fz]at hv
 case load t x=>simp only[Option.bind_eq_some_iff,Option.map_eq_some_iff]at hs;obtain⟨_,_,_,_,rfl⟩:=hs;simp[fz]at hv
 case store t x y =>
  split at hs
  ·simp only[Option.bind_eq_some_iff,Option.map_eq_some_iff]at hs;obtain⟨_,_,_,_,_,_,rfl⟩:=hs;simp[fz]at hv
  ·cases hs
 case slice t x lo hi mx =>
  simp only[Option.bind_eq_some_iff]at hs;obtain⟨_,_,_,_,_,_,_,_,hs⟩:=hs;split at hs
  ·split at hs
   ·cases hs
   ·simp only[Option.map_eq_some_iff]at hs;obtain⟨_,_,rfl⟩:=hs;simp[fz]at hv
  ·cases hs
 case buildSlice t n ps =>
  split at hs
  ·simp only[Option.bind_eq_some_iff]at hs;obtain⟨_,_,_,_,_,_,hs⟩:=hs;split at hs
   ·cases hs;simp[fz]at hv
   ·split at hs
    ·cases hs
    ·cases hs;simp[fz]at hv
  ·cases hs
end sound
end Go.Kx
namespace Go.Kx
open Go Go.RowKit
open List (getElem?_eq_getElem mem_of_getElem? length_append append_nil take_length)
def oS:SOp→Bool
 | .mv .. | .pick .. | .bin .. | .eqb .. | .eqf .. | .un .. | .isn .. | .cvI .. | .ext .. | .fld .. | .bld .. | .mkf .. | .len .. | .cpc .. | .mm .. | .nck .. | .flA .. | .ixP .. | .ixV ..=>true
 | _=>false
section sound
variable {r:KI} {P:Program} {N:Nat} {rs vs:KF} {β:Nat→Nat} {a:Act} {w:World} {e:Env} {h:H} {o:Oper} {K:KH} {Q:Exit→Act→World→Prop} {s:SOp} {d:Nat}
theorem yY(hp:oS s=true)(hk:opS P s e h K):∃ v,fz s e=some v∧K (e.set (Ev s) v) h:=by
 cases s <;> first | (cases hp;done) | (simp only[opS]at hk;split at hk <;> first | exact⟨_,‹_›,hk⟩ | exact hk.elim)
theorem tm{K:Env→Prop}(hp:oS s=true)(hk:opQ P s e h K):∃ v,fz s e=some v∧K (e.set (Ev s) v):=by
 cases s <;> first | (cases hp;done) | (simp only[opQ]at hk;split at hk <;> first | exact⟨_,‹_›,hk⟩ | exact hk.elim)
inductive Mem (P:Program) (N:Nat) (vs:KF) (o:Oper):SOp→Prop
 | al {d t i z} (ho:o.op=.alloc t) (hd:mh vs o=some d) (hi:P.info? t=some i) (hz:i.zero=some z):Mem P N vs o (.al d z.cells.toList)
 | bx {d t x y} (ho:o.op=.box t x) (hd:mh vs o=some d) (hx:slO vs N x=some y):Mem P N vs o (.bx d y)
 | ld {d t x y n} (ho:o.op=.load t x) (hd:mh vs o=some d) (hx:slO vs N x=some y) (hn:vo P t=some n):Mem P N vs o (.ld d y n)
 | cvS {d src dst x y el} (ho:o.op=.convert src dst x) (hd:mh vs o=some d) (hx:slO vs N x=some y) (hs:P.underlying src=some (.slice el)) (ht:P.underlying dst=some .string) (he:P.underlying el=some (.int .u8)):Mem P N vs o (.cvS d y)
 | st {t x y u v i} (ho:o.op=.store t x u) (hd:o.dst=none) (hx:slO vs N x=some y) (hu:slO vs N u=some v) (hi:P.info? t=some i):Mem P N vs o (.st y i.size v)
 | ixA {d t x y j k el i} (ho:o.op=.indexAddr t x j) (hd:mh vs o=some d) (hx:slO vs N x=some y) (hj:slO vs N j=some k) (ht:P.underlying t=some (.slice el)) (hi:P.info? el=some i):Mem P N vs o (.ixA d y k i.size)
 | sl {d t x y lo hi mx lo' hi' mx' el i} (ho:o.op=.slice t x lo hi mx) (hd:mh vs o=some d) (hx:slO vs N x=some y) (hl:zE vs N lo=some lo') (hh:zE vs N hi=some hi') (hm:zE vs N mx=some mx')
   (hmh:¬ (mx'.isSome=true∧hi'.isNone=true)) (ht:P.underlying t=some (.slice el)) (hi:P.info? el=some i):Mem P N vs o (.sl d y lo' hi' mx' i.size)
 | bls {d t n ps qs el i z} (ho:o.op=.buildSlice t n ps) (hd:mh vs o=some d) (ht:P.underlying t=some (.slice el)) (hi:P.info? el=some i) (hz:i.zero=some z) (hq:jV vs N (fun j=>some (j * i.size,i.size)) ps.toList=some qs)
   (hc:¬ (n=0∨i.size=0∨n * i.size > 2 ^ 24)):Mem P N vs o (.bls d el n i.size (Ad z.cells (n * i.size)) qs)
 | apz {d c x y t tx el i z k} (ho:o.op=.call c) (hd:mh vs o=some d) (hc:c.callee=.builtin .append) (hx:ur vs N c.args.toList=some [x,y]) (ha:c.argTypes.toList=[t,tx]) (ht:P.underlying t=some (.slice el))
   (hi:P.info? el=some i) (hz:i.zero=some z) (hzs:z.cells.size=i.size) (htx:P.underlying tx=some (.int k)) (h0:0 < i.size):Mem P N vs o (.apz d el i.size i.bytes x y)
 | clr {d c x t el i z} (ho:o.op=.call c) (hd:mh vs o=some d) (hc:c.callee=.builtin .clear) (hx:ur vs N c.args.toList=some [x]) (ha:c.argTypes.toList=[t]) (ht:P.underlying t=some (.slice el))
   (hi:P.info? el=some i) (hz:i.zero=some z) (hzs:z.cells.size=i.size):Mem P N vs o (.clr d x z.cells)
 | bl0 {d t ps el i} (ho:o.op=.buildSlice t 0 ps) (hps:ps.size=0) (hd:mh vs o=some d) (ht:P.underlying t=some (.slice el)) (hi:P.info? el=some i):Mem P N vs o (.bl0 d)
 | call {d c f xs} (ho:o.op=.call c) (hd:mh vs o=some d) (hc:c.callee=.value (.func f)) (hx:ur vs N c.args.toList=some xs):Mem P N vs o (.call d f xs)
 | cav {d c n f xs} (ho:o.op=.call c) (hd:mh vs o=some d) (hc:c.callee=.value (.tmp n)) (hf:slO vs N (.tmp n)=some f) (hx:ur vs N c.args.toList=some xs):Mem P N vs o (.cav d f xs)
 | app {d c x y t tx el i z} (ho:o.op=.call c) (hd:mh vs o=some d) (hc:c.callee=.builtin .append) (hx:ur vs N c.args.toList=some [x,y]) (ha:c.argTypes.toList=[t,tx]) (ht:P.underlying t=some (.slice el))
   (hi:P.info? el=some i) (hz:i.zero=some z) (hzs:z.cells.size=i.size) (htx:(∃ e',P.underlying tx=some (.slice e'))∨P.underlying tx=some .string):Mem P N vs o (.app d x y el i.size i.bytes)
theorem tv:∀ (l:KD) (s:ByteArray),(l.map fun b=>(b.toNat:Int)).foldl (fun r n=>r.push (UInt8.ofNat n.toNat)) s=⟨s.data++l.toArray⟩
 | [],s=>by simp
 | b :: l,s=>by
  rw[List.map_cons,List.foldl_cons,tv l];have:UInt8.ofNat ((b.toNat:Int)).toNat=b:=by simp
  rw[this];simp[ByteArray.push]
theorem sY{src dst el:TypeId}{v:Value}{s:ByteArray}(hs:P.underlying src=some (.slice el))(ht:P.underlying dst=some .string)(he:P.underlying el=some (.int .u8))(hw:Sat β h w)(hv:um h v s):(convert src dst v).run P w=.ok (.string s) w:=by
 have h0:(Conv.bytesToString v).run P w=.ok (.string s) w:=by
  rcases hv with⟨c,rfl,rfl⟩ | ⟨ad,c,rfl,hc⟩
  ·simp[Conv.bytesToString]
  ·have h1:=run_loadCells_list (P:=P) w ad (byteCells s) (fun j u hu=>(hc j u hu).sound hw);have h2:byteCells s=(s.data.toList.map fun b=>(b.toNat:Int)).map (Value.int .u8):=by simp[byteCells]
   have h3:(byteCells s).length=s.size:=by unfold byteCells;rw[List.length_map];rfl
   rw[h3,h2]at h1;have:=run_bytesToString w ad s.size c (s.data.toList.map fun b=>(b.toNat:Int)) h1;rw[tv]at this;simpa using this
 simp only[convert,Sem.run_bind,run_underlying hs,run_underlying ht,Result.andThen_ok];rcases hv with⟨c,rfl,rfl⟩ | ⟨ad,c,rfl,hc⟩ <;> simp[run_underlying he,h0]
theorem nY(hs:jN P N vs o=some s)(hp:oS s=false):Mem P N vs o s:=by
 unfold jN at hs;simp only[Option.bind_eq_some_iff]at hs;obtain⟨d,hd,hs⟩:=hs;cases ho:o.op <;> simp only[ho]at hs <;> try (cases hs;done)
 case move x=>simp only[Option.map_eq_some_iff]at hs;obtain⟨_,_,rfl⟩:=hs;cases hp
 case assign x=>simp only[Option.map_eq_some_iff]at hs;obtain⟨_,_,rfl⟩:=hs;cases hp
 case pick c x y=>simp only[Option.bind_eq_some_iff,Option.map_eq_some_iff]at hs;obtain⟨_,_,_,_,_,_,rfl⟩:=hs;cases hp
 case binOp op t x y ty =>
   simp only[Option.bind_eq_some_iff]at hs;obtain⟨_,_,_,_,hs⟩:=hs;split at hs
   · cases hs;cases hp
   · cases hs;cases hp
   · simp only[Option.map_eq_some_iff]at hs;obtain⟨_,_,rfl⟩:=hs;cases hp
   · simp only[Option.bind_eq_some_iff]at hs
     obtain⟨_,_,_,_,hs⟩:=hs;split at hs
     · cases hs;cases hp
     · cases hs
   · simp only[Option.bind_eq_some_iff]at hs
     obtain⟨_,_,hs⟩:=hs;split at hs
     · split at hs
       · cases hs;cases hp
       · cases hs
     · cases hs
   · simp only[Option.bind_eq_some_iff]at hs
     obtain⟨_,_,_,_,hs⟩:=hs;split at hs
     · cases hs
     · cases hs;cases hp
   · split at hs
     · simp only[Option.bind_eq_some_iff]at hs
       obtain⟨_,_,hs⟩:=hs;split at hs
       · cases hs;cases hp
       · cases hs
     · cases hs
 case unOp op ty x=>simp only[Option.map_eq_some_iff]at hs;obtain⟨_,_,rfl⟩:=hs;cases hp
 case convert src dst x =>
   simp only[Option.bind_eq_some_iff]at hs;obtain⟨y,hy,hs⟩:=hs;split at hs
   · cases hs;cases hp
   · rename_i el h1 h2
     split at hs
     · rename_i h3
       cases hs;refine .cvS ho hd hy h1 h2 ?_;cases h4:P.underlying el with
       | none=>rw[h4]at h3;cases h3
       | some dd => rw [h4] at h3; cases dd <;> first | cases h3 | skip
                    rename_i k;cases k <;> first | rfl | cases h3
     · cases hs
   · cases hs
 case index t x i =>
   simp only[Option.bind_eq_some_iff]at hs;obtain⟨_,_,_,_,hs⟩:=hs;split at hs
   · simp only[Option.bind_eq_some_iff,Option.map_eq_some_iff]at hs;obtain⟨_,_,_,_,rfl⟩:=hs;cases hp
   · cases hs
 case extract x i=>simp only[Option.map_eq_some_iff]at hs;obtain⟨_,_,rfl⟩:=hs;cases hp
 case field t x f =>
   simp only[Option.bind_eq_some_iff]at hs;obtain⟨_,_,hs⟩:=hs;split at hs
   · simp only[Option.bind_eq_some_iff,Option.map_eq_some_iff]at hs;obtain⟨_,_,_,_,rfl⟩:=hs;cases hp
   · cases hs
 case build t ps =>
   split at hs
   · simp only[Option.bind_eq_some_iff,Option.map_eq_some_iff]at hs;obtain⟨_,_,_,_,rfl⟩:=hs;cases hp
   · simp only[Option.bind_eq_some_iff,Option.map_eq_some_iff]at hs;obtain⟨_,_,_,_,rfl⟩:=hs;cases hp
   · cases hs
 case makeFunc fn first cs =>
   split at hs
   · simp only[Option.map_eq_some_iff]at hs;obtain⟨_,_,rfl⟩:=hs;cases hp
   · cases hs
 case nilCheck x=>simp only[Option.map_eq_some_iff]at hs;obtain⟨_,_,rfl⟩:=hs;cases hp
 case fieldAddr t x f =>
   simp only[Option.bind_eq_some_iff]at hs;obtain⟨_,_,hs⟩:=hs;split at hs
   · simp only[Option.bind_eq_some_iff]at hs
     obtain⟨_,_,_,_,hs⟩:=hs;split at hs
     · cases hs
     · cases hs;cases hp
   · cases hs
 case alloc t =>
   simp only[Option.map_eq_some_iff,Option.bind_eq_some_iff]at hs;obtain⟨z,⟨i,hi,hz⟩,rfl⟩:=hs;exact .al ho hd hi hz
 case box t x =>
   simp only[Option.map_eq_some_iff]at hs;obtain⟨y,hy,rfl⟩:=hs;exact .bx ho hd hy
 case load t x =>
   simp only[Option.bind_eq_some_iff,Option.map_eq_some_iff]at hs;obtain⟨y,hy,n,hn,rfl⟩:=hs;exact .ld ho hd hy hn
 case store t x u =>
   split at hs
   · rename_i hdn
     simp only[Option.bind_eq_some_iff,Option.map_eq_some_iff]at hs;obtain⟨y,hy,v,hv,i,hi,rfl⟩:=hs;exact .st ho (by simpa using hdn) hy hv hi
   · cases hs
 case indexAddr t x j =>
   simp only[Option.bind_eq_some_iff]at hs;obtain⟨y,hy,k,hk,hs⟩:=hs;split at hs
   · rename_i el hel
     simp only[Option.map_eq_some_iff]at hs;obtain⟨i,hi,rfl⟩:=hs;exact .ixA ho hd hy hk hel hi
   · simp only[Option.map_eq_some_iff]at hs;obtain⟨_,_,rfl⟩:=hs;cases hp
   · cases hs
 case slice t x lo hi mx =>
   simp only[Option.bind_eq_some_iff]at hs;obtain⟨y,hy,lo',hl,hi',hh,mx',hm,hs⟩:=hs;split at hs
   · rename_i el hel
     split at hs
     · cases hs
     · rename_i hc
       simp only[Option.map_eq_some_iff]at hs;obtain⟨i,hi,rfl⟩:=hs;exact .sl ho hd hy hl hh hm hc hel hi
   · cases hs
 case buildSlice t n ps =>
   split at hs
   · rename_i el hel
     simp only[Option.bind_eq_some_iff]at hs;obtain⟨i,hi,z,hz,qs,hq,hs⟩:=hs;split at hs
     · rename_i hn0
       cases hs;exact .bl0 (by rw[ho,hn0.1]) hn0.2 hd hel hi
     · split at hs
       · cases hs
       · rename_i hc
         cases hs;exact .bls ho hd hel hi hz hq hc
   · cases hs
 case call c =>
   simp only[Option.bind_eq_some_iff]at hs;obtain⟨xs,hxs,hs⟩:=hs;split at hs
   · rename_i f hc
     cases hs;exact .call ho hd hc hxs
   · rename_i n hc
     simp only[Option.map_eq_some_iff]at hs;obtain⟨f,hf,rfl⟩:=hs;exact .cav ho hd hc hf hxs
   · split at hs
     · simp only[Option.map_eq_some_iff]at hs;obtain⟨_,_,rfl⟩:=hs;cases hp
     · cases hs
   · split at hs
     · simp only[Option.map_eq_some_iff]at hs;obtain⟨_,_,rfl⟩:=hs;cases hp
     · cases hs
   · rename_i hc
     split at hs
     · rename_i x t ha
       split at hs
       · rename_i el hel
         simp only[Option.bind_eq_some_iff]at hs;obtain⟨i,hi,z,hz,hs⟩:=hs;split at hs
         · rename_i hzs
           cases hs;exact .clr ho hd hc hxs ha hel hi hz hzs
         · cases hs
       · cases hs
     · cases hs
   · split at hs
     · cases hs;cases hp
     · cases hs
   · split at hs
     · cases hs;cases hp
     · cases hs
   · rename_i hc
     split at hs
     · rename_i x y t tx ha
       split at hs
       · rename_i el hel
         simp only[Option.bind_eq_some_iff]at hs;obtain⟨i,hi,z,hz,hs⟩:=hs;split at hs
         · rename_i hzs
           split at hs
           · rename_i hti
             split at hs
             · rename_i h0
               cases hs;cases h4:P.underlying tx with
               | none=>rw[h4]at hti;cases hti
               | some dd =>
                 rw[h4]at hti;cases dd <;> first | cases hti | skip
                 exact .apz ho hd hc hxs ha hel hi hz hzs h4 h0
             · cases hs
           · simp only[Option.map_eq_some_iff]at hs
             obtain⟨u,hu,rfl⟩:=hs;refine .app ho hd hc hxs ha hel hi hz hzs ?_;split at hu
             · exact .inl ⟨_,‹_›⟩
             · exact .inr ‹_›
             · cases hu
         · cases hs
       · cases hs
     · cases hs
   · cases hs
theorem zg{v:Value}{sz m:Nat}{ys:Kt}{tx:TypeId}(hw:Sat β h w)(htx:(∃ e',P.underlying tx=some (.slice e'))∨P.underlying tx=some .string)(hs:Ex h v sz m ys)(hk:(∃ e',P.underlying tx=some (.slice e'))∨P.underlying tx=some .string:=htx):
  Src P sz tx v m ys w:=by
 obtain⟨h1,h2,h3⟩:=hs;rcases h3 with⟨c,rfl,rfl⟩ | ⟨ad,c,rfl,hc⟩ | ⟨str,rfl,rfl,rfl,rfl⟩
 ·have hy:ys=[]:=List.eq_nil_of_length_eq_zero (by simpa using h2);subst hy;exact⟨hk,fun _=>rfl,run_firstCells_none w sz 0 0 c,run_firstCells_none w.drew sz 0 0 c,by simp,fun _ h=>by cases h⟩
 ·have hcell:∀ j u,ys[j]?=some u→w.cell? (ad.add j)=some u:=fun j u hu=>(hc j u hu).sound hw
  exact⟨hk,fun _=>rfl,run_firstCells_some w sz m ad m c ys h2 hcell,run_firstCells_some w.drew sz m ad m c ys h2 (by simpa using hcell),h2,h1⟩
 ·exact⟨hk,fun _=>rfl,firstCells_string str w,firstCells_string str w.drew,h2,h1⟩
theorem lq{L1 L2:Kw}{it it':Item}(hne:∀ s cs,it'≠.reg s cs)(s:Nat)(cs:Kt)(hm:Item.reg s cs∈L1++it' :: L2):∃ cs',Item.reg s cs'∈L1++it :: L2:=by
 rcases List.mem_append.1 hm with h | h
 ·exact⟨cs,by simp[h]⟩
 ·rcases List.mem_cons.1 h with h | h
  ·exact absurd h.symm (hne s cs)
  ·exact⟨cs,by simp[h]⟩
theorem pd{z:Array Value}{n:Nat}{u:Value}(h:u∈(Builtin.zeroCells z n).toList):u∈z.toList:=by
 simp only[Builtin.zeroCells,Array.toList_map,List.mem_map,Array.mem_toList_iff,Array.mem_range]at h;obtain⟨i,hi,rfl⟩:=h;have h0:0 < z.size:=by
  rcases Nat.eq_zero_or_pos z.size with h | h
  ·rw[h]at hi;omega
  ·exact h
 have hlt:=Nat.mod_lt i h0;rw[getElem!_pos z (i % z.size) hlt];simp
theorem wv{G:Ks}{L L':Kw}{D:KF}{b off:Nat}{xs:Kt}(hw:Sat β ⟨G,L,D⟩ w)(hst:StL L (.pointer (some ⟨b,off,none⟩)) xs L')(hone':∀ u∈xs,u.oneCell'=true):
  ∃ w',(storeCells ⟨b,off,none⟩ xs).run P w=.ok () w'∧(Sat β ⟨G,L',D⟩ w'∧Step β ⟨G,L,D⟩ w β ⟨G,L',D⟩ w')∧il ⟨G,L',D⟩ ⟨G,L,D⟩:=by
 have fin:∀ {L1 L2:Kw} {it it':Item} {cs:Kt} {te:TypeId},L=L1++it :: L2→L'=L1++it' :: L2→w.heap[b]?=some (.cells cs.toArray te (0,0))→off+xs.length≤cs.length →
   it.block β=some b→it'.block β=some b→(∀ w':World,w'.heap[b]?=some (.cells (eo cs off xs).toArray te (0,0))→it'.ok β w')→(∀ s cs,it'≠.reg s cs) →
   ∃ w',(storeCells ⟨b,off,none⟩ xs).run P w=.ok () w'∧(Sat β ⟨G,L',D⟩ w'∧Step β ⟨G,L,D⟩ w β ⟨G,L',D⟩ w')∧il ⟨G,L',D⟩ ⟨G,L,D⟩:=by
  intro L1 L2 it it' cs te hL hL' hb hoff h1 h2 h3 h4;subst hL;subst hL';have hst:=run_storeCells_at P b off te xs 0 cs.toArray w hb (by simpa using hoff) hone';refine⟨w.setRow b (eo cs off xs).toArray,by rw[Nat.add_zero]at hst;rw[hst];simp[eo],?_,lq h4⟩
  exact kM (it':=it') hw rfl rfl rfl (by rw[setRow_size];omega) (fun b' _ hne=>setRow_other w b b' _ (fun he=>hne (by rw[he,h1]))) (h3 _ (setRow_heap w b _ _ te (0,0) hb)) (fun b' hb'=>.inl (by rw[h1,← h2];exact hb'))
 generalize hyp:Value.pointer (some ⟨b,off,none⟩)=yp at hst;cases hst with
 | @blk L1 b off cs xs L2 hoff =>
  cases hyp;obtain⟨te,hte⟩:=hw.l (.blk b cs) (by simp);exact fin rfl rfl hte hoff rfl rfl (fun w' hw'=>⟨te,hw'⟩) (fun _ _ hc=>by cases hc)
 | @row L1 g off n' c e' sz n ys xs L2 hoff =>
  cases hyp;have hro:sA w (.slice (some ⟨b,0,none⟩) n' c) e' sz n ys:=hw.l (.row (.slice (some ⟨b,0,none⟩) n' c) e' sz n ys) (by simp);obtain⟨hl,hro⟩:=hro;rcases hro with⟨A,hA,rfl⟩ | ⟨g',cap,cur,hv,hc0,hg,hnc,hcm,hcs,htake⟩
  ·have hys:ys=[]:=List.eq_nil_of_length_eq_zero (by simpa using hl);subst hys;have:xs=[]:=by have h9:=hoff;simp at h9;exact h9.2
   subst this;have:eo ([]:Kt) off []=[]:=by simp[eo]
   rw[this];exact⟨w,rfl,⟨hw,.refl _ _ _⟩,il.refl _⟩
  ·injection hv with hv1 hv2 hv3
   injection hv1 with hv1
   injection hv1 with hv1 _ _
   subst hv1;subst hv2;subst hv3;have hc0':¬ c=0:=by omega
   have hcul:cur.toList.length=c * sz:=by simpa using hcs
   have hle:n' * sz≤c * sz:=Nat.mul_le_mul_right _ hnc;have hsp:(eo cur.toList off xs).toArray.size=c * sz∧(eo cur.toList off xs).toArray.toList.take (n' * sz)=eo ys off xs:=by
    rw[hl]at hoff;refine⟨by simp[eo,hcul];omega,?_⟩;rw[← htake];apply List.ext_getElem?;intro j;simp only[eo,List.getElem?_take,List.getElem?_append,List.getElem?_drop,length_append,List.length_take,hcul];have e1:min off (c * sz)=off:=by omega
    have e2:min off (min (n' * sz) (c * sz))=off:=by omega
    simp only[e1,e2];by_cases hj:j < n' * sz
    ·simp only[hj,if_true];by_cases h1:j < off+xs.length
     ·simp only[h1,if_true]
     ·simp only[h1,if_false];rw[if_pos (by omega)]
    ·simp only[hj,if_false];rw[if_neg (by omega),if_neg (by omega)]
   refine fin (cs:=cur.toList) (te:=e') rfl rfl (by simpa using hg) (by rw[hcul];rw[hl]at hoff;omega) (by simp[Item.block,fh,hc0']) (by simp[Item.block,fh,hc0']) (fun w' hw'=>?_) (fun _ _ hc=>by cases hc);refine⟨?_,.inr ⟨b,c,_,rfl,hc0,hw',hnc,hcm,hsp.1,hsp.2⟩⟩;simp only[eo,length_append,List.length_take,List.length_drop];omega
theorem fo{k:IntKind}{j:Int}{y:Nat}{code:BoundsCode}(hj:0≤j∧j≤(y:Int)):(Instr.sliceBound (.int k j) y code).run P w=.ok j.toNat w:=by
 simp[Instr.sliceBound,asIntOf,hj]
theorem nz{t el:TypeId}{i:TypeInfo}{A:Ky}{n c:Nat}{lo hi mx:Option O}{l u m:Int}(ht:P.underlying t=some (.slice el))(hi':P.info? el=some i)(hl:bnd e 0 lo=some l)(hu:bnd e n hi=some u)(hm:bnd e c mx=some m)
  (hmh:¬ (mx.isSome=true∧hi.isNone=true)) (hb:0≤l∧l≤u∧u≤m∧m≤c) :
  (Instr.sliceAt t (.slice A n c) (lo.map (ev e)) (hi.map (ev e)) (mx.map (ev e))).run P w=.ok (.slice (if m.toNat=l.toNat then A else A.map (·.add (l.toNat * i.size))) (u.toNat - l.toNat) (m.toNat - l.toNat)) w:=by
 obtain⟨b0,b1,b2,b3⟩:=hb;have key:∀ (d j:Int) (x:Option O),bnd e d x=some j→(x=none∧j=d)∨∃ y k,x=some y∧ev e y=.int k j:=by
  intro d j x hx;cases x with
  | none=>simp only[bnd,Option.some.injEq]at hx;exact .inl ⟨rfl,hx.symm⟩
  | some y =>
   simp only[bnd,GX]at hx;split at hx
   ·rename_i k j' hj;cases hx;exact .inr ⟨y,k,rfl,hj⟩
   ·cases hx
 have hbs:(Instr.sliceBounds true n c (lo.map (ev e)) (hi.map (ev e)) (mx.map (ev e))).run P w=.ok (l.toNat,u.toNat,m.toNat) w:=by
  rcases key _ _ _ hl with⟨rfl,rfl⟩ | ⟨y1,k1,rfl,e1⟩ <;> rcases key _ _ _ hu with⟨rfl,rfl⟩ | ⟨y2,k2,rfl,e2⟩ <;> rcases key _ _ _ hm with⟨rfl,rfl⟩ | ⟨y3,k3,rfl,e3⟩
  ·rfl
  ·exact absurd ⟨rfl,rfl⟩ hmh
  ·simp only[Instr.sliceBounds,Option.map_some,Option.map_none,Sem.run_bind,Sem.run_pure,Result.andThen_ok,e2,fo (show 0≤u∧u≤((c:Nat):Int)by omega)];rfl
  ·simp only[Instr.sliceBounds,Option.map_some,Option.map_none,Sem.run_bind,Sem.run_pure,Result.andThen_ok,e2,e3,fo (show 0≤m∧m≤((c:Nat):Int)by omega),fo (show 0≤u∧u≤(m.toNat:Int)by omega)];rfl
  ·simp only[Instr.sliceBounds,Option.map_some,Option.map_none,Sem.run_bind,Sem.run_pure,Result.andThen_ok,e1,fo (show 0≤l∧l≤((n:Nat):Int)by omega)];rfl
  ·exact absurd ⟨rfl,rfl⟩ hmh
  ·simp only[Instr.sliceBounds,Option.map_some,Option.map_none,Sem.run_bind,Sem.run_pure,Result.andThen_ok,e1,e2,fo (show 0≤u∧u≤((c:Nat):Int)by omega),fo (show 0≤l∧l≤(u.toNat:Int)by omega)];rfl
  ·simp only[Instr.sliceBounds,Option.map_some,Sem.run_bind,Sem.run_pure,Result.andThen_ok,e1,e2,e3,fo (show 0≤m∧m≤((c:Nat):Int)by omega),fo (show 0≤u∧u≤(m.toNat:Int)by omega),fo (show 0≤l∧l≤(u.toNat:Int)by omega)]
 simp[Instr.sliceAt,run_underlying ht,Instr.slice,hbs,ft hi']
theorem Sat.fresh{β h w}(hw:Sat β h w):h.G w.heap.size=none:=by
 cases hg:h.G w.heap.size with
 | none=>rfl
 | some o=>have:=hw.g_lt hg;omega
theorem xn(hs:jN P N vs o=some s)(hN:N≤99999)(hr:Rel r N rs vs β a e h)(hw:Sat β h w)(hk:opS P s e h K):o.wpIn (Fr r) 0 P a w (xI r N rs vs β a e o h w K) Q:=by
 by_cases hp:oS s=true
 ·obtain⟨v,hv,hk⟩:=yY hp hk;obtain⟨h1,h2,h3⟩:=mq (w:=w) hs hr hv;exact lL hN hr hw h2 h1 h3 hk
 have hm:=nY hs (by simpa using hp);obtain⟨G,L,D⟩:=h;cases hm with
 | @al d t i z ho hd hi hz =>
  have hrun:(execOp a.eval o).run P w=.ok (.value (.pointer (some ⟨w.heap.size,0,none⟩))) (w.alloc (.cells z.cells t)):=by
   simp[execOp,ho,Instr.alloc,px hi hz,newVar,newRow]
  refine kC hN hr hd (nd ho rfl) hrun (h':=⟨G,.blk w.heap.size z.cells.toList :: L,D⟩) (lj hw rfl rfl rfl (by simp) (fun b hb=>heap_alloc_old w _ hb) ⟨t,by simpa using heap_alloc_new w _⟩ (fun b hb=>by simp[Item.block]at hb;omega)) ?_ rfl
   (hk _ hw.fresh)
  intro s cs hs;rcases List.mem_cons.1 hs with h | h
  ·cases h
  ·exact⟨cs,h⟩
 | @bx d t x y ho hd hx =>
  have hrun:(execOp a.eval o).run P w=.ok (.value (.pointer (some ⟨w.heap.size,0,none⟩))) (w.alloc (.cells (ev e y).cells t)):=by
   simp[execOp,ho,Instr.box,newVar,newRow,eM hr hx]
  refine kC hN hr hd (nd ho rfl) hrun (h':=⟨G,.blk w.heap.size (fm (ev e y)) :: L,D⟩) (lj hw rfl rfl rfl (by simp) (fun b hb=>heap_alloc_old w _ hb) ⟨t,by simpa [fm]using heap_alloc_new w _⟩ (fun b hb=>by simp[Item.block]at hb;omega)) ?_ rfl
   (hk _ hw.fresh)
  intro s cs hs;rcases List.mem_cons.1 hs with h | h
  ·cases h
  ·exact⟨cs,h⟩
 | @ld d t x y n ho hd hx hn =>
  obtain⟨v,hv,hk⟩:=hk;exact lL hN hr hw hd (nd ho rfl) (by simp only[execOp,ho,eM hr hx,Sem.run_bind,im hw hn hv,Result.andThen_ok];rfl) hk
 | @cvS d src dst x y el ho hd hx hs1 ht1 he1 =>
  obtain⟨s,hv,hk⟩:=hk;exact lL hN hr hw hd (nd ho rfl) (by simp only[execOp,ho,eM hr hx,Sem.run_bind,sY hs1 ht1 he1 hw hv,Result.andThen_ok];rfl) hk
 | @st t x y u v i ho hd hx hu hi =>
  obtain⟨L',hst,⟨hlen,hone⟩,hk⟩:=hk;obtain⟨b,off,hyp⟩:∃ b off,ev e y=.pointer (some ⟨b,off,none⟩):=by
   generalize ev e y=yp at hst;cases hst <;> exact⟨_,_,rfl⟩
  rw[hyp]at hst;obtain⟨w',e1,sw,hrs⟩:=wv (P:=P) hw hst (by simpa using hone);have hl:(ev e v).cells.size=i.size:=by rw[← hlen];simp[fm]
  have hrun:(execOp a.eval o).run P w=.ok .skip w':=by
   unfold fm at e1;simp only[execOp,ho,eM hr hx,eM hr hu,hyp,Sem.run_bind,Instr.storeAt,Instr.sureAddr,storeVar,Sem.run_pure,Result.andThen_ok,ft hi,hl,ne_eq,not_true_eq_false,if_false,e1]
  exact tW (nd ho rfl) hrun ⟨_,⟨G,L',D⟩,(hr.put' hd _).to hrs rfl,sw.1,sw.2,by rw[hd];exact⟨fun _ _=>rfl,fun _ _ _=>rfl⟩,hk⟩
 | @clr d c x t el i z ho hd hc hx ha ht hi hz hzs =>
  obtain⟨A,n,cc,L',hv,hst,hk⟩:=hk;have hm:c.args.map a.eval=#[ev e x]:=by
   have:=kn hr hx;apply Array.ext';rw[Array.toList_map,this];rfl
  have ha':c.argTypes=#[t]:=by apply Array.ext';simpa using ha
  have key:∀ w',(Builtin.clear_ #[t] t #[.slice A n cc]).run P w=.ok (.tuple #[]) w'→(execOp a.eval o).run P w=.ok (.value (.tuple #[])) w':=fun w' hh=>by
   have hg:∀ ty,Builtin.clear_ #[t] ty #[.slice A n cc]=Builtin.clear_ #[t] t #[.slice A n cc]:=fun ty=>rfl
   simp only[execOp,ho,resolve,hc,hm,ha',hv,Sem.run_bind,Sem.run_pure,Result.andThen_ok,invoke,builtin,hg o.type,hh]
  rcases hst with⟨rfl,hL⟩ | ⟨b,off,⟨rfl,hone⟩,hst⟩
  ·subst hL;refine kC hN hr hd (nd ho rfl) (key w ?_) (h':=⟨G,L',D⟩) ⟨hw,.refl _ _ _⟩ (il.refl _) rfl hk;cases A <;> simp[Builtin.clear_,run_underlying ht]
  ·obtain⟨w',e1,sw,hrs⟩:=wv (P:=P) hw hst (fun u hu=>hone u (pd hu));refine kC hN hr hd (nd ho rfl) (key w' ?_) (h':=⟨G,L',D⟩) sw hrs rfl hk;have hzv:(zeroValue el).run P w=.ok z w:=px hi hz w;cases n with
   | zero =>
    simp[Builtin.zeroCells,storeCells]at e1;subst e1;simp[Builtin.clear_,run_underlying ht]
   | succ n =>
    simp[Builtin.clear_,run_underlying ht,hzv,e1]
 | @ixA d t x y j k el i ho hd hx hj ht hi =>
  simp only[opS]at hk;split at hk
  ·rename_i A n c kk jj hA hjj;obtain⟨⟨b1,b2⟩,ad,rfl,hk⟩:=hk;refine lL hN hr hw hd (nd ho rfl) ?_ hk;simp[execOp,ho,eM hr hx,eM hr hj,hA,hjj,Instr.indexAt,asIntOf,run_underlying ht,b1,b2,ft hi]
  ·exact hk.elim
 | @sl d t x y lo hi mx lo' hi' mx' el i ho hd hx hl hh hmm hmh ht hi2 =>
  simp only[opS]at hk;split at hk
  ·rename_i A n c hA;split at hk
   ·rename_i l u m e1 e2 e3;obtain⟨hb,hk⟩:=hk;refine lL hN hr hw hd (nd ho rfl) ?_ hk;have:=nz (P:=P) (w:=w) (A:=A) ht hi2 e1 e2 e3 hmh hb;simp only[execOp,ho,eM hr hx,iK hr hl,iK hr hh,iK hr hmm,hA,Sem.run_bind,this,Result.andThen_ok];rfl
   ·exact hk.elim
  ·exact hk.elim
 | @bls d t n ps qs el i z ho hd ht hi hz hq hc =>
  simp only[opS]at hk;split at hk
  ·rename_i cs hcs;obtain⟨hlen,hk⟩:=hk;have hc':n≠0∧i.size≠0∧¬ n * i.size > 2 ^ 24:=by omega
   have h0:¬ n * i.size=0:=by
    intro hh;rcases Nat.mul_eq_zero.1 hh with h | h
    ·exact hc'.1 h
    ·exact hc'.2.1 h
   have h1:=po (fun j=>some (j * i.size,i.size)) (ps.toList.map fun(p:Nat × Operand)=>(p.1,a.eval p.2)) _ (Ad z.cells (n * i.size)) cs (mr hr _ ps.toList qs hq) hcs;have hrun:=run_buildSlice (P:=P) w t el n (ps.map fun(i,x)=>(i,a.eval x)) cs.toArray i z ht hi hz hc'.2.2 h0 (by rw[Array.toList_map];rw[Ad,Array.toArray_toList]at h1;exact h1);have hpos:1≤i.size:=by omega
   have hnm:n≤n * i.size:=Nat.le_mul_of_pos_right n hpos;refine kC hN hr hd (nd ho rfl) (v:=.slice (some ⟨w.heap.size,0,none⟩) n n) (w':=w.alloc (.cells cs.toArray el)) (h':=⟨G,.row (.slice (some ⟨w.heap.size,0,none⟩) n n) el i.size n cs :: L,D⟩) ?_
    (lj hw rfl rfl rfl (by simp) (fun b hb=>heap_alloc_old w _ hb) ⟨hlen,.inr ⟨w.heap.size,n,cs.toArray,rfl,by omega,heap_alloc_new w _,Nat.le_refl _,by unfold maxLen;omega,by simpa using hlen,by simp[← hlen]⟩⟩ (fun b hb=>?_)) ?_ rfl
    (hk _ hw.fresh)
   ·simp only[execOp,ho,Sem.run_bind];rw[hrun];rfl
   ·simp[Item.block,fh,hc'.1]at hb;omega
   ·intro s cs hs;rcases List.mem_cons.1 hs with h | h
    ·cases h
    ·exact⟨cs,h⟩
  ·exact hk.elim
 | @apz d c x y t tx el i z k ho hd hc hx ha ht hi hz hzs htx h0 =>
  obtain⟨n,⟨ex,ey⟩,⟨hn,hb,hm⟩,hk⟩:=hk;have hm':(n:Int)≤9223372036854775807:=by unfold maxLen at hm;omega
  have hap:=Lib.run_append_nil_zeros (P:=P) w t tx t el i z .i64 k ht htx hi hz n hn h0 hm' (by omega);have hge:=grownCap_ge w n 0 el;have hcm:grownCap w n 0 el≤maxLen:=grownCap_le_maxLen w n 0 el hm;generalize grownCap w n 0 el=cc at hap hge hcm;have hl1:(Builtin.zeroCells z.cells n).toList.length=n * i.size:=by simp[Builtin.zeroCells,hzs]
  have hm:c.args.map a.eval=#[ev e x,ev e y]:=by
   have:=kn hr hx;apply Array.ext';rw[Array.toList_map,this];rfl
  have ha':c.argTypes=#[t,tx]:=by apply Array.ext';simpa using ha
  refine kC hN hr hd (nd ho rfl) (v:=.slice (some ⟨w.heap.size,0,none⟩) n cc) (w':=w.drew.alloc (.cells (Builtin.zeroCells z.cells n++Builtin.zeroCells z.cells (cc - n)) el)) (h':=⟨G,.row (.slice (some ⟨w.heap.size,0,none⟩) n cc) el i.size n (Builtin.zeroCells z.cells n).toList :: L,D⟩) ?_
   (lj hw rfl rfl rfl (by simp) (fun b hb=>heap_alloc_old w.drew _ hb) ⟨hl1,.inr ⟨w.heap.size,cc,_,rfl,by omega,heap_alloc_new w.drew _,hge,hcm,?_,?_⟩⟩ (fun b hb=>?_)) ?_ rfl
   (hk _ _ _ hw.fresh)
  ·simp only[execOp,ho,resolve,hc,hm,ha',ex,ey,Sem.run_bind,Sem.run_pure,Result.andThen_ok,invoke,builtin];have hg:∀ ty,Builtin.append_ #[t,tx] ty #[.slice none 0 0,.int .i64 n]=Builtin.append_ #[t,tx] t #[.slice none 0 0,.int .i64 n]:=fun ty=>rfl
   simp only[hg o.type];rw[hap];rfl
  ·simp only[Array.size_append,size_zeroCells,hzs,← Nat.add_mul];congr 1;omega
  ·simp only[Array.toList_append,← hl1];exact List.take_left
  ·have hn':¬ cc=0:=by omega
   simp[Item.block,fh,hn']at hb;omega
  ·intro s cs hs;rcases List.mem_cons.1 hs with h | h
   ·cases h
   ·exact⟨cs,h⟩
 | @bl0 d t ps el i ho hps hd ht hi =>
  have hps':ps=#[]:=Array.eq_empty_of_size_eq_zero hps;have hrun:(execOp a.eval o).run P w=.ok (.value (.slice (some ⟨w.heap.size,0,none⟩) 0 0)) (w.alloc (.cells #[] el)):=by
   simp[execOp,ho,hps',Instr.buildSlice,run_underlying ht,ft hi,Instr.fill,newRow,show(Array.range 0)=#[]from rfl]
  refine kC hN hr hd (nd ho rfl) hrun (h':=⟨G,L,D⟩) (iP hw rfl rfl rfl (by simp) (fun b hb _=>heap_alloc_old w _ hb) (fun it hit=>Item.ok_of (hw.l it hit) (fun b hb=>heap_alloc_old w _ (Item.ok_lt (hw.l it hit) hb)) rfl) hw.nd' (fun b hb=>.inl hb)) (fun s cs h=>⟨cs,h⟩) rfl (hk _ hw.fresh)
 | @call d c f xs ho hd hc hx=>exact qY hN hr hw hd (nd ho rfl) (by simpa using nq (cap:=#[]) ho hr hc hx (by rfl) hk.1) hk
 | @cav d c n f xs ho hd hc hf hx=>exact Dt hN hr hw hd (nd ho rfl) ho hc hx (by rw[eM hr hf];exact hk)
 | @app d c x y t tx el i z ho hd hc hx ha ht hi hz hzs htx =>
  obtain⟨L1,n,xs,L2,m,ys,hL,hsrc,⟨hb1,hb2⟩,hk⟩:=hk;dsimp only at hL;obtain⟨hw0,hst0,hsrc0,hrs⟩:Sat β ⟨G,L1++.row (ev e x) el i.size n xs :: L2,D⟩ w∧Step β ⟨G,L,D⟩ w β ⟨G,L1++.row (ev e x) el i.size n xs :: L2,D⟩ w∧Ex ⟨G,L1++.row (ev e x) el i.size n xs :: L2,D⟩ (ev e y) i.size m ys∧∀ s cs,Item.reg s cs∈L1++.row (ev e x) el i.size n xs :: L2→∃ cs',Item.reg s cs'∈L:=by
   rcases hL with hL | ⟨⟨A,hA⟩,h1,h2,h3,h4⟩
   ·subst hL;exact⟨hw,.refl _ _ _,hsrc,fun s cs h=>⟨cs,h⟩⟩
   ·subst h1 h2 h3 h4;rw[hA];obtain⟨a,b⟩:=lj (it:=.row (.slice A 0 0) el i.size 0 []) hw rfl rfl rfl (Nat.le_refl _) (fun _ _=>rfl) ⟨by simp,.inl ⟨A,rfl,rfl⟩⟩ (fun b hb=>by cases A <;> simp[Item.block,fh]at hb);obtain⟨q1,q2,q3⟩:=hsrc;refine⟨a,b,⟨q1,q2,?_⟩,fun s cs h=>⟨cs,by simpa using h⟩⟩;rcases q3 with q3 | ⟨a',c',q4,q5⟩ | q3
    ·exact .inl q3
    ·refine .inr (.inl ⟨a',c',q4,fun j u hu=>?_⟩);exact(q5 j u hu).mono rfl fun it h=>List.mem_cons_of_mem _ h
    ·exact .inr (.inr q3)
  have hro:sA w (ev e x) el i.size n xs:=hw0.l (.row (ev e x) el i.size n xs) (by simp);obtain⟨A,cc,w',g1,g2,g3,g4,g5,g6,g7,g8⟩:=ul (P:=P) ht hi hz hzs hro (zg hw0 htx hsrc0) hb2 hb1;have hm:c.args.map a.eval=#[ev e x,ev e y]:=by
   have:=kn hr hx;apply Array.ext';rw[Array.toList_map,this];rfl
  have ha':c.argTypes=#[t,tx]:=by apply Array.ext';simpa using ha
  have hrun:(execOp a.eval o).run P w=.ok (.value (.slice A (n+m) cc)) w':=by
   simp only[execOp,ho,resolve,hc,hm,ha',Sem.run_bind,Sem.run_pure,Result.andThen_ok,invoke,builtin];have hg:∀ ty,Builtin.append_ #[t,tx] ty #[ev e x,ev e y]=Builtin.append_ #[t,tx] t #[ev e x,ev e y]:=fun ty=>rfl
   simp only[hg o.type];rw[show Builtin.append_ #[t,tx] t #[ev e x,ev e y]=Builtin.append_ #[t,tx] _ #[ev e x,ev e y]from rfl,g1];rfl
  have hsw:=kM (it':=.row (.slice A (n+m) cc) el i.size (n+m) (xs++ys)) hw0 g3 g4 g5 g6 (fun b hb hne=>g7 b hb hne) g2 (fun b hb=>g8 b hb);exact kC hN hr hd (nd ho rfl) hrun (h':=⟨G,L1++.row (.slice A (n+m) cc) el i.size (n+m) (xs++ys) :: L2,D⟩) ⟨hsw.1,hst0.trans hsw.2⟩
   (il.trans (b:=⟨G,L1++.row (ev e x) el i.size n xs :: L2,D⟩) hrs (lq (fun _ _ hc=>by cases hc))) rfl (hk A cc)
end sound
end Go.Kx
namespace Go.Kx
open Go Go.RowKit
open List (getElem?_eq_getElem mem_of_getElem? length_append append_nil take_length)
structure ME where
 d:Nat
 s:Nat
 o:Nat
 g:Option (Nat × Bool)
def gOk(v:Value)(b:Bool):Bool :=
 match v with
 | .bool x=>x == b
 | _=>false
def sW(rs:KF)(m:List ME)(g:Option (Nat × Bool)):Operand→Option (Nat × Nat)
 | .tmp n=>if rs.contains n then some (n,0)else(m.find? (·.d == n)).bind fun x=>if x.g=none∨x.g=g then some (x.s,x.o)else none
 | _=>none
def rI(rs:KF):Operand→KI
 | .tmp n=>if rs.contains n then some n else none
 | _=>none
def jq(m:List ME)(d:KI):List ME:=m.filter fun x=>x.g.map (·.1) != d
def hU(P:Program)(N:Nat)(rs vs:KF)(m:List ME)(g:Option (Nat × Bool))(o:Oper):Option (SOp × List ME × KI) :=
 match o.op with
 | .alloc t =>
  match o.dst with
  | some s=>if rs.contains s=true then(if vs.contains s=true∧s < N∧g=none then((P.info? t).bind (·.zero)).map fun z=>(.alR s z.cells.toList,m.filter (·.s != s),none)else none)
   else(jN P N vs o).map fun x=>(x,jq m o.dst,none)
  | none=>none
 | .box _ x =>
  match o.dst with
  | some s=>if rs.contains s=true then(if vs.contains s=true∧s < N∧g=none then(slO vs N x).map fun y=>(.bxR s y,m.filter (·.s != s),none)else none)
   else(jN P N vs o).map fun x=>(x,jq m o.dst,none)
  | none=>none
 | .fieldAddr t x f =>
  match sW rs m g x with
  | some (s,off) =>
   match o.dst,P.underlying t with
   | some d,some (.struct fs)=>if vs.contains d=true∧rs.contains d=false∧d < N then(fs[f]?).bind fun fd=>(P.info? fd.type).bind fun i =>
     if i.size=0 then none else some (.nop,⟨d,s,off+fd.offset,g⟩ :: m.filter (·.d != d),rI rs x)else none
   | _,_=>none
  | none=>(jN P N vs o).map fun x=>(x,jq m o.dst,none)
 | .load t x =>
  match sW rs m g x with
  | some (s,off)=>(mh vs o).bind fun d=>(vo P t).map fun n=>(.ldR d s off n,jq m o.dst,none)
  | none=>(jN P N vs o).map fun x=>(x,jq m o.dst,none)
 | .store t x y =>
  match sW rs m g x with
  | some (s,off)=>if o.dst.isNone then(slO vs N y).bind fun y=>(P.info? t).map fun i=>(.stR s off i.size y,jq m none,none)else none
  | none=>(jN P N vs o).map fun x=>(x,jq m o.dst,none)
 | _=>(jN P N vs o).map fun x=>(x,jq m o.dst,none)
def opC(P:Program)(c:KI)(s:SOp)(e:Env)(h:H)(K:KH):Prop :=
 match c with
 | none=>opS P s e h K
 | some x=>match getR x h.L with
  | some _=>opS P s e h K
  | none=>False
def ly(P:Program)(c:KI)(s:SOp)(e:Env)(h:H)(K:Env→Prop):Prop :=
 match c with
 | none=>opQ P s e h K
 | some x=>match getR x h.L with
  | some _=>opQ P s e h K
  | none=>False
structure MapOk (N:Nat) (rs vs:KF) (β:Nat→Nat) (a:Act) (e:Env) (m:List ME):Prop where
 ok:∀ x∈m,(x.d∈vs∧rs.contains x.d=false)∧((x.g=none∨∃ d b,x.g=some (d,b)∧gOk (e d) b=true)→a.tmps.getD x.d undef=.pointer (some ⟨β x.s,x.o,none⟩))
section sound
variable {r:KI} {P:Program} {N:Nat} {rs vs:KF} {β:Nat→Nat} {a:Act} {w:World} {e:Env} {h:H} {o:Oper} {K:KH} {Q:Exit→Act→World→Prop} {s:SOp} {d:Nat} {m m':List ME} {g:Option (Nat × Bool)} {c:KI}
theorem fb{d i:Nat}{v:Value}(hne:d≠i):(a.put (some d) v).tmps.getD i undef=a.tmps.getD i undef:=by
 simp only[Act.put,Array.getD_eq_getD_getElem?,Array.getElem?_setIfInBounds];rw[if_neg hne]
theorem iT{d:Nat}{v:Value}(hd:d < a.tmps.size):(a.put (some d) v).tmps.getD d undef=v:=by
 simp[Act.put,Array.getD_eq_getD_getElem?,hd]
theorem MapOk.keep{a':Act}{e':Env}{β':Nat→Nat}(hm:MapOk N rs vs β a e m)(hg:∀ x∈m,∀ p,x.g=some p→p.1 < 99999)(hβ:∀ x∈m,β' x.s=β x.s)
  (hk:(∀ i∈vs,a'.tmps.getD i undef=a.tmps.getD i undef)∧∀ i,i < 99999→o.dst≠some i→e' i=e i):MapOk N rs vs β' a' e' (jq m o.dst):=by
 constructor;intro x hx;obtain⟨hx,hgx⟩:=List.mem_filter.1 hx;obtain⟨h1,h2⟩:=hm.ok x hx;refine⟨h1,fun hgo=>?_⟩;rw[hk.1 _ h1.1,hβ x hx];apply h2;rcases hgo with h | ⟨dg,b,h,hb⟩
 ·exact .inl h
 ·refine .inr ⟨dg,b,h,?_⟩;rw[← hk.2 dg (hg x hx _ h) (fun he=>by rw[h,he]at hgx;simp at hgx)];exact hb
theorem MapOk.sub{l:List ME}(hm:MapOk N rs vs β a e m)(hs:∀ x∈l,x∈m):MapOk N rs vs β a e l:=⟨fun x hx=>hm.ok x (hs x hx)⟩
def tn(r:KI)(N:Nat)(rs vs:KF)(h:H)(β:Nat→Nat)(w:World)(m:List ME)(K:KH):Act→World→Prop :=
 fun a' w'=>∃ β' e' h',Rel r N rs vs β' a' e' h'∧MapOk N rs vs β' a' e' m∧Sat β' h' w'∧Step β h w β' h' w'∧K e' h'
theorem iu{X Y:Act→World→Prop}(hh:o.wpIn (Fr r) 0 P a w X Q)(hxy:∀ a w,X a w→Y a w):o.wpIn (Fr r) 0 P a w Y Q:=Oper.wpIn_mono hxy hh
theorem u0(hs:jN P N vs o=some s)(hN:N≤99999)(hr:Rel r N rs vs β a e h)(hw:Sat β h w)(hk:opS P s e h K)(hm:MapOk N rs vs β a e m)(hg:∀ x∈m,∀ p,x.g=some p→p.1 < 99999):
  o.wpIn (Fr r) 0 P a w (tn r N rs vs h β w (jq m o.dst) K) Q :=
 iu (xn hs hN hr hw hk) fun _ _ ⟨e',h',h1,h2,h3,h4,h5⟩=>⟨β,e',h',h1,hm.keep hg (fun _ _=>rfl) h4,h2,h3,h5⟩
theorem jS{x:Operand}{s off:Nat}(hl:sW rs m g x=some (s,off))(hr:Rel r N rs vs β a e h)(hm:MapOk N rs vs β a e m)(hg:g=none∨∃ d b,g=some (d,b)∧gOk (e d) b=true)
  (hreg:∀ n,rI rs x=some n→∃ cs,Item.reg n cs∈h.L):a.eval x=.pointer (some ⟨β s,off,none⟩):=by
 unfold sW at hl;split at hl
 ·rename_i n;split at hl
  ·rename_i hn;cases hl;obtain⟨cs,hcs⟩:=hreg _ (by simp only[rI];rw[if_pos hn]);exact(hr.reg _ cs hcs).2.2
  ·simp only[Option.bind_eq_some_iff]at hl;obtain⟨x,hx,hl⟩:=hl;split at hl
   ·rename_i hxg;cases hl;have hmem:=List.mem_of_find?_eq_some hx;have hd:x.d=n:=by simpa using List.find?_some hx
    have:=(hm.ok x hmem).2 (by rcases hxg with h | h;exact .inl h;rw[h];exact hg)
    rw[hd]at this;exact this
   ·cases hl
 ·cases hl
theorem kG{x:Operand}{s off n:Nat}(hl:sW rs m g x=some (s,off))(hn:rI rs x=some n):s=n∧off=0:=by
 unfold rI at hn;split at hn
 ·split at hn
  ·rename_i hc;cases hn;simp only[sW]at hl;rw[if_pos hc]at hl;cases hl;exact⟨rfl,rfl⟩
  ·cases hn
 ·cases hn
theorem gO{s:Nat}{cs:Kt}{L:Kw}(hs:getR s L=some cs):Item.reg s cs∈L:=by
 obtain⟨L1,L2,rfl,_⟩:=iM hs;simp
theorem add_lit(b o k:Nat):(⟨b,o,none⟩:Addr).add k=⟨b,o+k,none⟩:=by unfold Addr.add;split <;> simp_all
theorem Aj{G:Ks}{L:Kw}{D:KF}{cs:Kt}{t:TypeId}(hw:Sat β ⟨G,L,D⟩ w)(s:Nat):
  Sat (fun i=>if i=s then w.heap.size else β i) ⟨G,.reg s cs :: rmR s L,D⟩ (w.alloc (.cells cs.toArray t))∧Step β ⟨G,L,D⟩ w (fun i=>if i=s then w.heap.size else β i) ⟨G,.reg s cs :: rmR s L,D⟩ (w.alloc (.cells cs.toArray t)):=by
 have hblk:∀ it∈rmR s L,it.block (fun i=>if i=s then w.heap.size else β i)=it.block β:=by
  intro it hit;obtain⟨_,h2⟩:=lm hit;cases it with
  | reg s' c=>have:¬ s'=s:=fun he=>h2 c (by rw[he]);simp[Item.block,this]
  | blk b c=>rfl
  | row v e sz n xs=>rfl
  | obj b o=>rfl
 have hdom:dom (fun i=>if i=s then w.heap.size else β i) (rmR s L)=dom β (rmR s L):=by
  unfold dom;generalize rmR s L=l at hblk
  induction l with
  | nil=>rfl
  | cons it l ih =>
   have h1:=hblk it (by simp);have h2:=ih (fun x hx=>hblk x (by simp[hx]));simp only[List.filterMap_cons,h1,h2]
 have hsub:=(mK (s:=s) L);have hd2:(dom β (rmR s L)).Sublist (dom β L):=hsub.filterMap _;refine iP hw rfl rfl rfl (by simp) (fun b hb _=>heap_alloc_old w _ hb) ?_ ?_ ?_
 ·intro it hit;rcases List.mem_cons.1 hit with rfl | hit
  ·exact⟨t,by simpa using heap_alloc_new w _⟩
  ·exact Item.ok_of (hw.l it (hsub.subset hit)) (fun b hb=>heap_alloc_old w _ (Item.ok_lt (hw.l it (hsub.subset hit)) hb)) (hblk it hit)
 ·rw[gA,hdom];refine List.nodup_append.2 ⟨by simp[Item.block],hd2.nodup hw.nd',fun b hb c hc=>?_⟩;have h1:b=w.heap.size:=by simpa [Item.block]using hb
  have h2:=hw.dom_lt (hd2.subset hc);omega
 ·intro b hb;rw[gA,hdom]at hb;rcases List.mem_append.1 hb with h | h
  ·right;have h1:b=w.heap.size:=by simpa [Item.block]using h
   omega
  ·exact .inl (hd2.subset h)
theorem Rel.newR{G:Ks}{L:Kw}{D:KF}{cs:Kt}{s b:Nat}(hr:Rel r N rs vs β a e ⟨G,L,D⟩)(hsr:rs.contains s=true)(hsv:vs.contains s=true)(hsN:s < N)(ho:o.dst=some s):
  Rel r N rs vs (fun i=>if i=s then b else β i) (a.put o.dst (.pointer (some ⟨b,0,none⟩))) e ⟨G,.reg s cs :: rmR s L,D⟩:=by
 have hsv':s∈vs:=by simpa using hsv
 have hsr':s∈rs:=by simpa using hsr
 rw[ho];refine⟨by simp[Act.put,hr.size],fun i hi hv=>?_,fun s' cs' hs'=>?_,hr.dfr⟩
 ·rw[fb (fun he=>hv (by rw[← he];exact hsv'))];exact hr.env i hi hv
 ·rcases List.mem_cons.1 hs' with h | h
  ·injection h with h1 h2
   subst h1;exact⟨⟨hsr',hsv'⟩,hsN,by rw[iT (by rw[hr.size];exact hsN)];simp⟩
  ·obtain⟨h1,h2⟩:=lm h;have hne:¬ s'=s:=fun he=>h2 cs' (by rw[he])
   obtain⟨g1,g2,g3⟩:=hr.reg s' cs' h1;refine⟨g1,g2,?_⟩;rw[fb (fun he=>hne he.symm),g3];simp[hne]
theorem jL(hs:hU P N rs vs m g o=some (s,m',c))(hN:N≤99999)(hr:Rel r N rs vs β a e h)(hw:Sat β h w)(hk:opC P c s e h K)(hm:MapOk N rs vs β a e m)(hg:∀ x∈m,∀ p,x.g=some p→p.1 < 99999)
  (hgo:g=none∨∃ d b,g=some (d,b)∧gOk (e d) b=true):o.wpIn (Fr r) 0 P a w (tn r N rs vs h β w m' K) Q:=by
 have normal:∀ {s m' c},(jN P N vs o).map (fun x=>(x,jq m o.dst,(none:KI)))=some (s,m',c)→opC P c s e h K→o.wpIn (Fr r) 0 P a w (tn r N rs vs h β w m' K) Q:=by
  intro s m' c hs hk;simp only[Option.map_eq_some_iff,Prod.mk.injEq]at hs;obtain⟨x,hx,rfl,rfl,rfl⟩:=hs;exact u0 hx hN hr hw hk hm hg
 have newv:∀ {s0:Nat} {cs:Kt} {t:TypeId},vs.contains s0=true→s0 < N→o.dst=some s0→eZ o→(execOp a.eval o).run P w=.ok (.value (.pointer (some ⟨w.heap.size,0,none⟩))) (w.alloc (.cells cs.toArray t)) →
   K e { h with L:=.reg s0 cs :: rmR s0 h.L }→(hsr:rs.contains s0=true)→o.wpIn (Fr r) 0 P a w (tn r N rs vs h β w (m.filter (·.s != s0)) K) Q:=by
  intro s0 cs t h1 h2 h3 h4 hrun hk hsr;obtain⟨G,L,D⟩:=h;have hsw:=Aj (cs:=cs) (t:=t) hw s0;refine kN h4 hrun ⟨fun i=>if i=s0 then w.heap.size else β i,e,⟨G,.reg s0 cs :: rmR s0 L,D⟩,hr.newR hsr h1 h2 h3,?_,hsw.1,hsw.2,hk⟩;constructor;intro x hx;obtain⟨hx,hxs⟩:=List.mem_filter.1 hx;obtain⟨g1,g2⟩:=hm.ok x hx;refine⟨g1,fun hgx=>?_⟩;have hne:¬ x.s=s0:=by simpa using hxs
  have hdne:¬ s0=x.d:=fun he=>by rw[← he]at g1;rw[hsr]at g1;cases g1.2
  rw[h3,fb hdne,g2 hgx];simp[hne]
 unfold hU at hs;cases ho:o.op <;> simp only[ho]at hs <;> try exact normal hs hk
 case alloc t =>
  split at hs
  ·rename_i s0 hd;split at hs
   ·rename_i hrs;split at hs
    ·rename_i hc;simp only[Option.map_eq_some_iff,Option.bind_eq_some_iff,Prod.mk.injEq]at hs;obtain⟨z,⟨i,hi,hz⟩,rfl,rfl,rfl⟩:=hs;refine newv (t:=t) hc.1 hc.2.1 hd (nd ho rfl) ?_ hk hrs;simp[execOp,ho,Instr.alloc,px hi hz,newVar,newRow]
    ·cases hs
   ·exact normal hs hk
  ·cases hs
 case box t x =>
  split at hs
  ·rename_i s0 hd;split at hs
   ·rename_i hrs;split at hs
    ·rename_i hc;simp only[Option.map_eq_some_iff,Prod.mk.injEq]at hs;obtain⟨y,hy,rfl,rfl,rfl⟩:=hs;refine newv (t:=t) hc.1 hc.2.1 hd (nd ho rfl) ?_ hk hrs;simp[execOp,ho,Instr.box,newVar,newRow,eM hr hy,fm]
    ·cases hs
   ·exact normal hs hk
  ·cases hs
 case fieldAddr t x f =>
  split at hs
  ·rename_i s0 off hl;split at hs
   ·rename_i d fs hd hu;split at hs
    ·rename_i hc;simp only[Option.bind_eq_some_iff]at hs;obtain⟨fd,hfd,i,hi,hs⟩:=hs;split at hs
     ·cases hs
     ·rename_i hne;simp only[Option.some.injEq,Prod.mk.injEq]at hs;obtain⟨rfl,rfl,rfl⟩:=hs;have hreg:(∀ n,rI rs x=some n→∃ cs,Item.reg n cs∈h.L)∧K e h:=by
       unfold opC at hk;split at hk
       ·rename_i hn;exact⟨fun n hn'=>(by rw[hn]at hn';cases hn'),hk⟩
       ·rename_i n hn;split at hk
        ·rename_i cs hcs;exact⟨fun n' hn'=>(by rw[hn]at hn';cases hn';exact⟨cs,gO hcs⟩),hk⟩
        ·exact hk.elim
      have hx:=jS hl hr hm hgo hreg.1;have hdv:d∈vs:=by simpa using hc.1
      refine kN (nd ho rfl) (w':=w) (v:=.pointer (some ⟨β s0,off+fd.offset,none⟩)) ?_ ⟨β,e,h,?_,?_,hw,.refl _ _ _,hreg.2⟩
      ·simp[execOp,ho,hx,Instr.fieldAt,run_underlying hu,hfd,Instr.sureAddr,fieldPlace,ft hi,hne,add_lit]
      ·rw[hd];refine⟨by simp[Act.put,hr.size],fun i hi hv=>?_,fun s' cs' hs'=>?_,hr.dfr⟩
       ·rw[fb (fun he=>hv (by rw[← he];exact hdv))];exact hr.env i hi hv
       ·obtain⟨g1,g2,g3⟩:=hr.reg s' cs' hs';refine⟨g1,g2,?_⟩;have hne:¬ d=s':=fun he=>by
         have h1:rs.contains d=true:=by rw[he];simpa using g1.1
         rw[hc.2.1]at h1;cases h1
        rw[fb hne];exact g3
      ·rw[hd];constructor;intro y hy;rcases List.mem_cons.1 hy with rfl | hy
       ·exact⟨⟨hdv,hc.2.1⟩,fun _=>iT (by rw[hr.size];exact hc.2.2)⟩
       ·obtain⟨hy,hyd⟩:=List.mem_filter.1 hy;obtain⟨g1,g2⟩:=hm.ok y hy;refine⟨g1,fun hgy=>?_⟩;have hne:¬ d=y.d:=fun he=>by simp[he]at hyd
        rw[fb hne];exact g2 hgy
    ·cases hs
   ·cases hs
  ·exact normal hs hk
 case load t x =>
  split at hs
  ·rename_i s0 off hl;simp only[Option.bind_eq_some_iff,Option.map_eq_some_iff,Prod.mk.injEq]at hs;obtain⟨d,hd,n,hn,rfl,rfl,rfl⟩:=hs;simp only[opC,opS]at hk;split at hk
   ·rename_i cs hcs;split at hk
    ·rename_i v hv;have hx:=jS hl hr hm hgo (fun n' hn'=>⟨cs,by rw[← (kG hl hn').1];exact gO hcs⟩);obtain⟨te,hte⟩:=hw.l _ (gO hcs);have hld:(Instr.loadAt t (.pointer (some ⟨β s0,off,none⟩))).run P w=.ok v w:=by
      have hsat:Sat β ⟨fun _=>none,[.blk (β s0) cs],[]⟩ w:=⟨fun _ _ h=>(by cases h),fun it hit=>(by simp at hit;subst hit;exact⟨te,hte⟩),by simp[dom,Item.block],fun _ _=>rfl,fun _ h=>(by cases h)⟩;refine im hsat hn ?_;cases n with
      | none=>exact⟨_,rfl,.blk (cs:=cs) (by simp) (by simpa [ldC]using hv)⟩
      | some k =>
       simp only[ldC]at hv;split at hv
       ·rename_i hle;cases hv;refine⟨_,_,rfl,rfl,by simp;omega,fun j u hu=>?_⟩;rw[add_lit];refine .blk (cs:=cs) (by simp) ?_;simp only[List.getElem?_take,List.getElem?_drop]at hu;split at hu
        ·exact hu
        ·cases hu
       ·cases hv
     refine kN (nd ho rfl) (w':=w) (v:=v) ?_ ⟨β,_,_,hr.put hN hd v,hm.keep hg (fun _ _=>rfl) (gI hd v),hw,.refl _ _ _,hk⟩;simp only[execOp,ho,hx,Sem.run_bind,hld,Result.andThen_ok];rfl
    ·exact hk.elim
   ·exact hk.elim
  ·exact normal hs hk
 case store t x y =>
  split at hs
  ·rename_i s0 off hl;split at hs
   ·rename_i hdn;have hdn':o.dst=none:=by simpa using hdn
    simp only[Option.bind_eq_some_iff,Option.map_eq_some_iff,Prod.mk.injEq]at hs;obtain⟨y',hy,i,hi,rfl,rfl,rfl⟩:=hs;simp only[opC,opS]at hk;split at hk
    ·rename_i cs hcs;obtain⟨⟨h1,h2,h3⟩,hk⟩:=hk;have hx:=jS hl hr hm hgo (fun n' hn'=>⟨cs,by rw[← (kG hl hn').1];exact gO hcs⟩);obtain⟨G,L,D⟩:=h;dsimp only at hcs hk;obtain⟨L1,L2,hL,hset⟩:=iM hcs;subst hL;rw[hset]at hk;obtain⟨te,hte⟩:=hw.l (.reg s0 cs) (by simp)
     obtain⟨w',e1,e2,e3,e4,e5,e6,e7⟩:=sQ (P:=P) (t:=t) (y:=ev e y') (o:=off) hi hte rfl h1 (by rw[show(ev e y').cells.toList.length=i.size from h1];exact h2) (fun u hu=>List.all_eq_true.1 h3 u hu);have sw:=kM (it':=.reg s0 (eo cs off (fm (ev e y')))) hw e5 e6 e7 (by omega) (fun b' _ hne=>e3 b' (fun he=>hne (by rw[he];rfl))) ⟨te,e2⟩ (fun b' hb'=>.inl hb')
     refine tW (nd ho rfl) (w':=w') ?_ ⟨β,e,⟨G,L1++.reg s0 (eo cs off (fm (ev e y'))) :: L2,D⟩,(hr.put' hdn' _).to ?_ rfl,?_,sw.1,sw.2,hk⟩
     ·simp only[execOp,ho,hx,eM hr hy,Sem.run_bind,e1,Result.andThen_ok];rfl
     ·intro s' cs' hs';rcases List.mem_append.1 hs' with h | h
      ·exact⟨cs',by simp[h]⟩
      ·rcases List.mem_cons.1 h with h | h
       ·injection h with h _;subst h;exact⟨cs,by simp⟩
       ·exact⟨cs',by simp[h]⟩
     ·rw[hdn'];exact hm.sub (fun x hx=>(List.mem_filter.1 hx).1)
    ·exact hk.elim
   ·cases hs
  ·exact normal hs hk
end sound
end Go.Kx
namespace Go.Kx
open Go Go.RowKit
open List (getElem?_eq_getElem mem_of_getElem? length_append append_nil take_length)
def IZ(x y:ME):Bool:=x.d == y.d && x.s == y.s && x.o == y.o && x.g == y.g
theorem DX{x y:ME}(h:IZ x y=true):x=y:=by
 obtain⟨a,b,c,d⟩:=x;obtain⟨a',b',c',d'⟩:=y;simp only[IZ,Bool.and_eq_true,beq_iff_eq]at h;obtain⟨⟨⟨rfl,rfl⟩,rfl⟩,rfl⟩:=h;rfl
def mj(vs:KF)(o:Oper):Nat :=
 match o.dst with
 | none=>99999
 | some d=>if vs.contains d then 99999 else d
def mQ(rs vs:KF)(m m':List ME)(g:Option (Nat × Bool))(o:Oper):Bool :=
 (match o.dst with | none=>true | some d=>!vs.contains d || !rs.contains d) && m'.all fun x=>x.g == g || (m.any (IZ x) && some x.d != o.dst)
structure SI where
 g:Option (Nat × Bool)
 s:SOp
 c:KI
 k:Nat
def fC(P:Program)(N:Nat)(rs vs:KF)(all:Array Oper):List Oper→List ME→Option (List SI)
 | [],_=>some []
 | o :: l,m =>
  match o.guard with
  | none=>(hU P N rs vs m none o).bind fun x=>(fC P N rs vs all l x.2.1).map (⟨none,x.1,x.2.2,0⟩ :: ·)
  | some (j,b)=>((all[j]?).bind (·.dst)).bind fun d=>if d < N∧vs.contains d=false then
    (hU P N rs vs m (some (d,b)) o).bind fun x=>if mQ rs vs m x.2.1 (some (d,b)) o=true then(fC P N rs vs all l x.2.1).map (⟨some (d,b),x.1,x.2.2,mj vs o⟩ :: ·)else none else none
def eb(P:Program):List SI→Env→H→(KH)→Prop
 | [],e,h,K=>K e h
 | ⟨none,s,c,_⟩ :: l,e,h,K=>opC P c s e h fun e h=>eb P l e h K
 | ⟨some (d,b),s,c,k⟩ :: l,e,h,K=>if gOk (e d) b=true then opC P c s e h fun e h=>eb P l e h K else eb P l (e.set k undef) h K
def ez(P:Program):List SI→Env→H→(Env→Prop)→Prop
 | [],e,_,K=>K e
 | ⟨none,s,c,_⟩ :: l,e,h,K=>ly P c s e h fun e=>ez P l e h K
 | ⟨some (d,b),s,c,k⟩ :: l,e,h,K=>if gOk (e d) b=true then ly P c s e h fun e=>ez P l e h K else ez P l (e.set k undef) h K
section sound
variable {r:KI} {P:Program} {N:Nat} {rs vs:KF} {β:Nat→Nat} {a:Act} {w:World} {e:Env} {h:H} {o:Oper} {K:KH} {s:SOp} {d:Nat} {m m':List ME} {g:Option (Nat × Bool)} {c:KI}
def GM(N:Nat)(m:List ME):Prop:=∀ x∈m,∀ p,x.g=some p→p.1 < N
theorem fy(hs:hU P N rs vs m g o=some (s,m',c))(hm:GM N m)(hg:∀ p,g=some p→p.1 < N):GM N m':=by
 have keep:∀ d,GM N (jq m d):=fun d x hx=>hm x (List.mem_filter.1 hx).1
 have norm:∀ {s m' c},(jN P N vs o).map (fun x=>(x,jq m o.dst,(none:KI)))=some (s,m',c)→GM N m':=by
  intro s m' c hs;simp only[Option.map_eq_some_iff,Prod.mk.injEq]at hs;obtain⟨x,hx,rfl,rfl,rfl⟩:=hs;exact keep _
 have filt:∀ (p:ME→Bool),GM N (m.filter p):=fun p x hx=>hm x (List.mem_filter.1 hx).1
 unfold hU at hs;split at hs
 ·split at hs
  ·split at hs
   ·split at hs
    ·simp only[Option.map_eq_some_iff,Prod.mk.injEq]at hs;obtain⟨_,_,_,rfl,_⟩:=hs;exact filt _
    ·cases hs
   ·exact norm hs
  ·cases hs
 ·split at hs
  ·split at hs
   ·split at hs
    ·simp only[Option.map_eq_some_iff,Prod.mk.injEq]at hs;obtain⟨_,_,_,rfl,_⟩:=hs;exact filt _
    ·cases hs
   ·exact norm hs
  ·cases hs
 ·split at hs
  ·split at hs
   ·split at hs
    ·simp only[Option.bind_eq_some_iff]at hs;obtain⟨_,_,_,_,hs⟩:=hs;split at hs
     ·cases hs
     ·simp only[Option.some.injEq,Prod.mk.injEq]at hs;obtain⟨_,rfl,_⟩:=hs;intro x hx;rcases List.mem_cons.1 hx with rfl | hx
      ·exact hg
      ·exact filt _ x hx
    ·cases hs
   ·cases hs
  ·exact norm hs
 ·split at hs
  ·simp only[Option.bind_eq_some_iff,Option.map_eq_some_iff,Prod.mk.injEq]at hs;obtain⟨_,_,_,_,_,rfl,_⟩:=hs;exact keep _
  ·exact norm hs
 ·split at hs
  ·split at hs
   ·simp only[Option.bind_eq_some_iff,Option.map_eq_some_iff,Prod.mk.injEq]at hs;obtain⟨_,_,_,_,_,rfl,_⟩:=hs;exact keep _
   ·cases hs
  ·exact norm hs
 ·exact norm hs
theorem iq{d0:Nat}{b:Bool}(hk:mQ rs vs m m' (some (d0,b)) o=true)(hN:N≤99999)(hr:Rel r N rs vs β a e h)(hm:MapOk N rs vs β a e m)(hgo:gOk (e d0) b=false)(hm':∀ x∈m',x.d∈vs∧rs.contains x.d=false):
  Rel r N rs vs β (a.put o.dst undef) (e.set (mj vs o) undef) h∧MapOk N rs vs β (a.put o.dst undef) (e.set (mj vs o) undef) m':=by
 simp only[mQ,Bool.and_eq_true]at hk;obtain⟨hk1,hk2⟩:=hk;have hset:∀ i b',gOk ((e.set (mj vs o) undef) i) b'=true→gOk (e i) b'=true:=by
  intro i b' hh;simp only[Env.set]at hh;split at hh
  ·cases hh
  ·exact hh
 have hslot:∀ i,o.dst≠some i→(a.put o.dst undef).tmps.getD i undef=a.tmps.getD i undef:=by
  intro i hi;cases hd:o.dst with
  | none=>rfl
  | some d=>exact fb (fun he=>hi (by rw[hd,he]))
 constructor
 ·refine⟨?_,fun i hi hv=>?_,fun s cs hs=>?_,?_⟩
  ·cases hd:o.dst with
   | none=>exact hr.size
   | some d=>simp[Act.put,hr.size]
  ·by_cases hdi:o.dst=some i
   ·have:mj vs o=i:=by simp only[mj,hdi];rw[if_neg (by simpa using hv)]
    rw[this,hdi];simp[Env.set,iT (a:=a) (v:=undef) (d:=i) (by rw[hr.size];exact hi)]
   ·rw[hslot i hdi];simp only[Env.set];rw[if_neg]
    ·exact hr.env i hi hv
    ·intro he;simp only[mj]at he;split at he
     ·omega
     ·rename_i d hd;split at he
      ·omega
      ·exact hdi (by rw[hd,he])
  ·obtain⟨g1,g2,g3⟩:=hr.reg s cs hs;refine⟨g1,g2,?_⟩;rw[hslot s]
   ·exact g3
   ·intro hd;simp only[hd,Bool.or_eq_true,Bool.not_eq_true']at hk1;rcases hk1 with h1 | h1
    ·have:vs.contains s=true:=by simpa using g1.2
     rw[h1]at this;cases this
    ·have:rs.contains s=true:=by simpa using g1.1
     rw[h1]at this;cases this
  ·cases hd:o.dst with
   | none=>exact hr.dfr
   | some d=>exact hr.dfr
 ·constructor;intro x hx;refine⟨hm' x hx,fun hgx=>?_⟩;have:=List.all_eq_true.1 hk2 x hx;simp only[Bool.or_eq_true,Bool.and_eq_true]at this;rcases this with h1 | ⟨h1,h2⟩
  ·exfalso;have h1:x.g=some (d0,b):=by simpa using h1
   rcases hgx with h | ⟨d,b',h,hb⟩
   ·rw[h1]at h;cases h
   ·rw[h1]at h;cases h;rw[hset _ _ hb]at hgo;cases hgo
  ·obtain⟨y,hy,hxy⟩:=List.any_eq_true.1 h1;have:=DX hxy;subst this;rw[hslot x.d (fun he=>by simp[he]at h2)];apply (hm.ok x hy).2;rcases hgx with h | ⟨d,b',h,hb⟩
   ·exact .inl h
   ·exact .inr ⟨d,b',h,hset _ _ hb⟩
theorem jX(hs:hU P N rs vs m g o=some (s,m',c))(hm:∀ x∈m,x.d∈vs∧rs.contains x.d=false):∀ x∈m',x.d∈vs∧rs.contains x.d=false:=by
 have filt:∀ (p:ME→Bool),∀ x∈m.filter p,x.d∈vs∧rs.contains x.d=false:=fun p x hx=>hm x (List.mem_filter.1 hx).1
 have norm:∀ {s m' c},(jN P N vs o).map (fun x=>(x,jq m o.dst,(none:KI)))=some (s,m',c)→∀ x∈m',x.d∈vs∧rs.contains x.d=false:=by
  intro s m' c hs;simp only[Option.map_eq_some_iff,Prod.mk.injEq]at hs;obtain⟨x,hx,rfl,rfl,rfl⟩:=hs;exact filt _
 unfold hU at hs;split at hs
 ·split at hs
  ·split at hs
   ·split at hs
    ·simp only[Option.map_eq_some_iff,Prod.mk.injEq]at hs;obtain⟨_,_,_,rfl,_⟩:=hs;exact filt _
    ·cases hs
   ·exact norm hs
  ·cases hs
 ·split at hs
  ·split at hs
   ·split at hs
    ·simp only[Option.map_eq_some_iff,Prod.mk.injEq]at hs;obtain⟨_,_,_,rfl,_⟩:=hs;exact filt _
    ·cases hs
   ·exact norm hs
  ·cases hs
 ·split at hs
  ·split at hs
   ·split at hs
    ·rename_i hc;simp only[Option.bind_eq_some_iff]at hs;obtain⟨_,_,_,_,hs⟩:=hs;split at hs
     ·cases hs
     ·simp only[Option.some.injEq,Prod.mk.injEq]at hs;obtain⟨_,rfl,_⟩:=hs;intro x hx;rcases List.mem_cons.1 hx with rfl | hx
      ·exact⟨by simpa using hc.1,hc.2.1⟩
      ·exact filt _ x hx
    ·cases hs
   ·cases hs
  ·exact norm hs
 ·split at hs
  ·simp only[Option.bind_eq_some_iff,Option.map_eq_some_iff,Prod.mk.injEq]at hs;obtain⟨_,_,_,_,_,rfl,_⟩:=hs;exact filt _
  ·exact norm hs
 ·split at hs
  ·split at hs
   ·simp only[Option.bind_eq_some_iff,Option.map_eq_some_iff,Prod.mk.injEq]at hs;obtain⟨_,_,_,_,_,rfl,_⟩:=hs;exact filt _
   ·cases hs
  ·exact norm hs
 ·exact norm hs
theorem gY{all:Array Oper}{j d0:Nat}{b:Bool}(hr:Rel r N rs vs β a e h)(hd:(all[j]?).bind (·.dst)=some d0)(hdN:d0 < N)(hdv:vs.contains d0=false)(hg:o.guard=some (j,b)):Region.wanted o (yielded all a.tmps)=gOk (e d0) b:=by
 have he:=hr.env d0 hdN (by simpa using hdv);have hsz:d0 < a.tmps.size:=by rw[hr.size];exact hdN
 have hq:a.tmps[d0]?=some (e d0):=by
  rw[← he];simp[Array.getD_eq_getD_getElem?,hsz]
 simp only[Region.wanted,hg,yielded,hd,Option.bind_some,hq];cases e d0 <;> simp[gOk]
theorem kv{all:Array Oper}{Q:Exit→KH}(hN:N≤99999){β0:Nat→Nat}{h0:H}{w0:World}:∀ (l:List Oper) (k:Nat) (m:List ME) (sl:List SI) (β:Nat→Nat) (a:Act) (w:World) (e:Env) (h:H),(∀ j,l[j]?=all[k+j]?)→fC P N rs vs all l m=some sl →
  Rel r N rs vs β a e h→MapOk N rs vs β a e m→GM N m→Sat β h w→Step β0 h0 w0 β h w→eb P sl e h K→wpOpsIn (Fr r) 0 P all (fw r N rs vs β0 h0 w0 (fl K Q)) (List.range' k l.length) a w
 | [],k,m,sl,β,a,w,e,h,_,hs,hr,_,_,hw,hst,hk=>by
  simp only[fC,Option.some.injEq]at hs;subst hs;exact⟨β,e,h,hr,hw,hst,hk⟩
 | o :: l,k,m,sl,β,a,w,e,h,hl,hs,hr,hm,hgm,hw,hst,hk=>by
  have ho:all[k]?=some o:=by simpa using(hl 0).symm
  have hl':∀ j,l[j]?=all[k+1+j]?:=fun j=>by have:=hl (j+1);simpa [Nat.add_assoc,Nat.add_comm 1 j]using this
  simp only[List.length_cons,List.range'_succ,wpOpsIn,ho];have hgm9:∀ x∈m,∀ p,x.g=some p→p.1 < 99999:=fun x hx p hp=>Nat.lt_of_lt_of_le (hgm x hx p hp) hN
  have go:∀ {s m' c g sl'},hU P N rs vs m g o=some (s,m',c)→(∀ p,g=some p→p.1 < N)→(g=none∨∃ d b,g=some (d,b)∧gOk (e d) b=true)→fC P N rs vs all l m'=some sl'→opC P c s e h (fun e h=>eb P sl' e h K) →
    o.wpIn (Fr r) 0 P a w (wpOpsIn (Fr r) 0 P all (fw r N rs vs β0 h0 w0 (fl K Q)) (List.range' (k+1) l.length)) (fw r N rs vs β0 h0 w0 (fl K Q)):=by
   intro s m' c g sl' h1 hgN hgo hsl hop;refine iu (jL h1 hN hr hw hop hm hgm9 hgo) ?_;rintro a' w' ⟨β',e',h',r1,r2,r3,r4,r5⟩;exact kv hN l (k+1) m' sl' β' a' w' e' h' hl' hsl r1 r2 (fy h1 hgm hgN) r3 (hst.trans r4) r5
  unfold fC at hs;split at hs
  ·rename_i hg;simp only[Option.bind_eq_some_iff,Option.map_eq_some_iff]at hs;obtain⟨⟨s,m',c⟩,h1,sl',h2,rfl⟩:=hs;rw[if_pos (by simp[Region.wanted,hg])];exact go h1 (fun p hp=>by cases hp) (.inl rfl) h2 hk
  ·rename_i j b hg;simp only[Option.bind_eq_some_iff]at hs;obtain⟨d0,hd0,hs⟩:=hs;split at hs
   ·rename_i hdc;simp only[Option.bind_eq_some_iff]at hs;obtain⟨⟨s,m',c⟩,h1,hs⟩:=hs;split at hs
    ·rename_i hsk;simp only[Option.map_eq_some_iff]at hs;obtain⟨sl',h2,rfl⟩:=hs;rw[gY hr (by simpa [Option.bind_eq_some_iff]using hd0) hdc.1 hdc.2 hg];simp only[eb]at hk;by_cases hgo:gOk (e d0) b=true
     ·rw[if_pos hgo]at hk ⊢;exact go h1 (fun p hp=>by cases hp;exact hdc.1) (.inr ⟨d0,b,rfl,hgo⟩) h2 hk
     ·rw[if_neg hgo]at hk ⊢;have hsn:=iq (o:=o) hsk hN hr hm (by simpa using hgo) (jX h1 (fun x hx=>(hm.ok x hx).1));exact⟨fun _ _=>trivial,kv hN l (k+1) m' sl' β _ w _ h hl' h2 hsn.1 hsn.2 (fy h1 hgm (fun p hp=>by cases hp;exact hdc.1)) hw hst hk⟩
    ·cases hs
   ·cases hs
end sound
theorem uS{r:KI}{P:Program}{N:Nat}{rs vs:KF}{Q:Exit→KH}{K:KH}{e:Env}{h:H}{id:Nat}{ops:Array Oper}{sl:List SI}(hN:N≤99999)(hs:fC P N rs vs ops ops.toList []=some sl)(hk:eb P sl e h K):
  wpH r P N rs vs (.region id ops false) (fl K Q) e h:=by
 intro β a w hr hw;refine wpIn_region ?_;have:=kv (P:=P) (Q:=Q) (all:=ops) hN ops.toList 0 [] sl β a w e h (by simp) hs hr ⟨fun x hx=>by cases hx⟩ (fun x hx=>by cases hx) hw (.refl β h w) hk;rw[List.range_eq_range'];simpa using this
abbrev Ku:=List SI
end Go.Kx
namespace Go.Kx
open Go Go.RowKit
open List (getElem?_eq_getElem mem_of_getElem? length_append append_nil take_length)
section any
variable {r:KI} {P:Program} {md:Region.Mode} {ops:Array Oper} {C:World→Prop}
theorem qa{o:Oper}{a:Act}{K:Act→Prop}{K':Act→World→Prop}{Q':Exit→Act→World→Prop}{w:World}(hd:eZ o)(hw:C w)(h:∀ a w',C w'→K a→K' a w')(hh:o.quiet P a C K):o.wpIn (Fr r) 0 P a w K' Q':=by
 obtain⟨v,h1,h2⟩:=hh;have h3:=h1 w hw;unfold Oper.quietAt at h3;refine⟨fun _ _=>trivial,?_⟩;rw[Oper.semAt_eq _ _ _ hd];generalize (execOp a.eval o).run P w=res at *;cases res with
 | ok n w' =>
  cases n <;> simp only[Oper.quietUpon]at h3 <;> simp only[Oper.uponIn]
  case value u =>
   obtain⟨e1,e2⟩:=h3;rw[e1,e2];exact h _ _ hw h2
  case skip =>
   obtain⟨e1,e2⟩:=h3;rw[e1,← e2];exact h _ _ hw h2
  case enter f args =>
   obtain⟨e1,hc⟩:=h3;rw[e1];exact⟨fun hh=>by simp[Fr,Fence.wide]at hh,(pc hc).mono fun e w'' ⟨he,hw''⟩=>by subst he;exact h _ _ hw'' h2⟩
 | halt x w'=>simp only[Oper.quietUpon]at h3
theorem lO{i:Nat}{a:Act}{K:Act→Prop}{K':Act→World→Prop}{Q':Exit→Act→World→Prop}{w:World}(hd:∀ (j:Nat) (o:Oper),ops[j]?=some o→eZ o)(hC:C w)(h:∀ a w',C w'→K a→K' a w')(hh:qOp P ops C i K a):wpOpIn (Fr r) 0 P ops Q' i K' a w:=by
 unfold qOp at hh;unfold wpOpIn;split
 ·rename_i ho;simp only[ho]at hh;exact h _ _ hC hh
 ·rename_i o ho;simp only[ho]at hh;split
  ·rename_i hw;simp only[hw,if_true]at hh;exact qa (hd _ _ ho) hC h hh
  ·rename_i hw;simp only[hw]at hh;exact⟨fun _ _=>trivial,h _ _ hC hh⟩
theorem ka{Q:Act→Prop}{Q':Exit→Act→World→Prop}(hd:∀ (j:Nat) (o:Oper),ops[j]?=some o→eZ o)(hQ:∀ a w,C w→Q a→Q' .normal a w):∀ (fuel:Nat) (listed:Array Bool) (a:Act) (w:World),C w →
  wpAnyQ P md ops C Q fuel listed a→wpAnyIn (Fr r) 0 P md ops Q' fuel listed a w
 | 0,_,_,_,hw,h=>⟨h.1,hQ _ _ hw h.2⟩
 | fuel+1,_,_,_,hw,h=>⟨fun h0=>hQ _ _ hw (h.1 h0),fun i hi=>lO hd hw (fun a' w' hw'=>ka hd hQ fuel _ a' w' hw') (h.2 i hi)⟩
end any
section quiet
variable {r:KI} {P:Program} {N:Nat} {rs vs:KF} {β:Nat→Nat} {a:Act} {w:World} {e:Env} {h:H} {o:Oper} {K:Env→Prop} {s:SOp} {d:Nat} {m m':List ME} {g:Option (Nat × Bool)} {c:KI} {C:World→Prop}
def l8(r:KI)(N:Nat)(rs vs:KF)(β:Nat→Nat)(h:H)(m:List ME)(K:Env→Prop):Act→Prop :=
 fun a'=>∃ e',Rel r N rs vs β a' e' h∧MapOk N rs vs β a' e' m∧K e'
theorem xw(hs:jN P N vs o=some s)(hN:N≤99999)(hr:Rel r N rs vs β a e h)(hC:∀ w,C w→Sat β h w)(hCs:∀ w w',C w→Sat β h w'→Step β h w β h w'→C w')(hk:opQ P s e h K)(hm:MapOk N rs vs β a e m)(hg:∀ x∈m,∀ p,x.g=some p→p.1 < 99999):
  o.quiet P a C (l8 r N rs vs β h (jq m o.dst) K):=by
 have fin:∀ {v:Value} {d:Nat},mh vs o=some d→(∀ w,C w→(execOp a.eval o).run P w=.ok (.value v) w)→K (e.set d v)→o.quiet P a C (l8 r N rs vs β h (jq m o.dst) K):=by
  intro v d hd hrun hk;refine⟨v,fun w hw=>?_,_,hr.put hN hd v,hm.keep hg (fun _ _=>rfl) (gI hd v),hk⟩;simp only[Oper.quietAt,hrun w hw,Oper.quietUpon,and_self]
 have finc:∀ {v:Value} {d g:Nat} {args:Array Value},mh vs o=some d→(∀ w,(execOp a.eval o).run P w=.ok (.enter g args) w)→eS P g args h (fun v' h'=>v'=v∧h'=h)→K (e.set d v)→o.quiet P a C (l8 r N rs vs β h (jq m o.dst) K):=by
  intro v d g args hd hrun hcall hk;refine⟨v,fun w hw=>?_,_,hr.put hN hd v,hm.keep hg (fun _ _=>rfl) (gI hd v),hk⟩;simp only[Oper.quietAt,hrun w,Oper.quietUpon,true_and];refine(hcall.2 β w (hC w hw)).mono ?_;rintro x w' ⟨v',h',rfl,_,hs,st,rfl,rfl⟩;exact⟨rfl,hCs _ _ hw hs st⟩
 by_cases hp:oS s=true
 ·obtain⟨v,hv,hk⟩:=tm hp hk;have h0:=fun w=>mq (w:=w) hs hr hv
  exact fin (h0 default).2.1 (fun w _=>(h0 w).2.2) hk
 have hmem:=nY hs (by simpa using hp);cases hmem with
 | al | bx | st | bls | app | bl0 | apz | clr=>simp[opQ,fz]at hk
 | @ld d t x y n ho hd hx hn =>
  obtain⟨v,hv,hk⟩:=hk;exact fin hd (fun w hw=>by simp only[execOp,ho,eM hr hx,Sem.run_bind,im (hC w hw) hn hv,Result.andThen_ok];rfl) hk
 | @cvS d src dst x y el ho hd hx hs1 ht1 he1 =>
  obtain⟨s,hv,hk⟩:=hk;exact fin hd (fun w hw=>by simp only[execOp,ho,eM hr hx,Sem.run_bind,sY hs1 ht1 he1 (hC w hw) hv,Result.andThen_ok];rfl) hk
 | @ixA d t x y j k el i ho hd hx hj ht hi =>
  simp only[opQ]at hk;split at hk
  ·rename_i A n c kk jj hA hjj;obtain⟨⟨b1,b2⟩,ad,rfl,hk⟩:=hk;refine fin hd (fun w _=>?_) hk;simp[execOp,ho,eM hr hx,eM hr hj,hA,hjj,Instr.indexAt,asIntOf,run_underlying ht,b1,b2,ft hi]
  ·exact hk.elim
 | @sl d t x y lo hi mx lo' hi' mx' el i ho hd hx hl hh hmm hmh ht hi2 =>
  simp only[opQ]at hk;split at hk
  ·rename_i A n c hA;split at hk
   ·rename_i l u m e1 e2 e3;obtain⟨hb,hk⟩:=hk;refine fin hd (fun w _=>?_) hk;have:=nz (P:=P) (w:=w) (A:=A) ht hi2 e1 e2 e3 hmh hb;simp only[execOp,ho,eM hr hx,iK hr hl,iK hr hh,iK hr hmm,hA,Sem.run_bind,this,Result.andThen_ok];rfl
   ·exact hk.elim
  ·exact hk.elim
 | @call d c f xs ho hd hc hx =>
  obtain⟨v,hcall,hk⟩:=hk;exact finc hd (fun w=>nq (cap:=#[]) ho hr hc hx (by rfl) hcall.1) (by simpa using hcall) hk
 | @cav d c n f xs ho hd hc hf hx =>
  obtain⟨g,cap,v,hfv,hcall,hk⟩:=hk;exact finc hd (fun w=>nq ho hr hc hx (by rw[eM hr hf];exact hfv) hcall.1) hcall hk
theorem qO(hs:hU P N rs vs m g o=some (s,m',c))(hN:N≤99999)(hr:Rel r N rs vs β a e h)(hC:∀ w,C w→Sat β h w)(hCs:∀ w w',C w→Sat β h w'→Step β h w β h w'→C w')(hk:ly P c s e h K)(hm:MapOk N rs vs β a e m)(hg:∀ x∈m,∀ p,x.g=some p→p.1 < 99999)
  (hgo:g=none∨∃ d b,g=some (d,b)∧gOk (e d) b=true):o.quiet P a C (l8 r N rs vs β h m' K):=by
 have normal:∀ {s m' c},(jN P N vs o).map (fun x=>(x,jq m o.dst,(none:KI)))=some (s,m',c)→ly P c s e h K→o.quiet P a C (l8 r N rs vs β h m' K):=by
  intro s m' c hs hk;simp only[Option.map_eq_some_iff,Prod.mk.injEq]at hs;obtain⟨x,hx,rfl,rfl,rfl⟩:=hs;exact xw hx hN hr hC hCs hk hm hg
 unfold hU at hs;cases ho:o.op <;> simp only[ho]at hs <;> try exact normal hs hk
 case alloc t =>
  split at hs
  ·split at hs
   ·split at hs
    ·simp only[Option.map_eq_some_iff,Option.bind_eq_some_iff,Prod.mk.injEq]at hs;obtain⟨z,⟨i,hi,hz⟩,rfl,rfl,rfl⟩:=hs;simp[ly,opQ,fz]at hk
    ·cases hs
   ·exact normal hs hk
  ·cases hs
 case box t x =>
  split at hs
  ·split at hs
   ·split at hs
    ·simp only[Option.map_eq_some_iff,Prod.mk.injEq]at hs;obtain⟨y,hy,rfl,rfl,rfl⟩:=hs;simp[ly,opQ,fz]at hk
    ·cases hs
   ·exact normal hs hk
  ·cases hs
 case fieldAddr t x f =>
  split at hs
  ·rename_i s0 off hl;split at hs
   ·rename_i d fs hd hu;split at hs
    ·rename_i hc;simp only[Option.bind_eq_some_iff]at hs;obtain⟨fd,hfd,i,hi,hs⟩:=hs;split at hs
     ·cases hs
     ·rename_i hne;simp only[Option.some.injEq,Prod.mk.injEq]at hs;obtain⟨rfl,rfl,rfl⟩:=hs;have hreg:(∀ n,rI rs x=some n→∃ cs,Item.reg n cs∈h.L)∧K e:=by
       unfold ly at hk;split at hk
       ·rename_i hn;exact⟨fun n hn'=>(by rw[hn]at hn';cases hn'),hk⟩
       ·rename_i n hn;split at hk
        ·rename_i cs hcs;exact⟨fun n' hn'=>(by rw[hn]at hn';cases hn';exact⟨cs,gO hcs⟩),hk⟩
        ·exact hk.elim
      have hx:=jS hl hr hm hgo hreg.1;have hdv:d∈vs:=by simpa using hc.1
      refine⟨.pointer (some ⟨β s0,off+fd.offset,none⟩),fun w _=>?_,e,?_,?_,hreg.2⟩
      ·have:(execOp a.eval o).run P w=.ok (.value (.pointer (some ⟨β s0,off+fd.offset,none⟩))) w:=by
        simp[execOp,ho,hx,Instr.fieldAt,run_underlying hu,hfd,Instr.sureAddr,fieldPlace,ft hi,hne,add_lit]
       simp only[Oper.quietAt,this,Oper.quietUpon,and_self]
      ·rw[hd];refine⟨by simp[Act.put,hr.size],fun i hi hv=>?_,fun s' cs' hs'=>?_,hr.dfr⟩
       ·rw[fb (fun he=>hv (by rw[← he];exact hdv))];exact hr.env i hi hv
       ·obtain⟨g1,g2,g3⟩:=hr.reg s' cs' hs';refine⟨g1,g2,?_⟩;have hne:¬ d=s':=fun he=>by
         have h1:rs.contains d=true:=by rw[he];simpa using g1.1
         rw[hc.2.1]at h1;cases h1
        rw[fb hne];exact g3
      ·rw[hd];constructor;intro y hy;rcases List.mem_cons.1 hy with rfl | hy
       ·exact⟨⟨hdv,hc.2.1⟩,fun _=>iT (by rw[hr.size];exact hc.2.2)⟩
       ·obtain⟨hy,hyd⟩:=List.mem_filter.1 hy;obtain⟨g1,g2⟩:=hm.ok y hy;refine⟨g1,fun hgy=>?_⟩;have hne:¬ d=y.d:=fun he=>by simp[he]at hyd
        rw[fb hne];exact g2 hgy
    ·cases hs
   ·cases hs
  ·exact normal hs hk
 case load t x =>
  split at hs
  ·rename_i s0 off hl;simp only[Option.bind_eq_some_iff,Option.map_eq_some_iff,Prod.mk.injEq]at hs;obtain⟨d,hd,n,hn,rfl,rfl,rfl⟩:=hs;simp only[ly,opQ]at hk;split at hk
   ·rename_i cs hcs;split at hk
    ·rename_i v hv;have hx:=jS hl hr hm hgo (fun n' hn'=>⟨cs,by rw[← (kG hl hn').1];exact gO hcs⟩);refine⟨v,fun w hw=>?_,_,hr.put hN hd v,hm.keep hg (fun _ _=>rfl) (gI hd v),hk⟩;obtain⟨te,hte⟩:=(hC w hw).l _ (gO hcs);have hld:(Instr.loadAt t (.pointer (some ⟨β s0,off,none⟩))).run P w=.ok v w:=by
      have hsat:Sat β ⟨fun _=>none,[.blk (β s0) cs],[]⟩ w:=⟨fun _ _ h=>(by cases h),fun it hit=>(by simp at hit;subst hit;exact⟨te,hte⟩),by simp[dom,Item.block],fun _ _=>rfl,fun _ h=>(by cases h)⟩;refine im hsat hn ?_;cases n with
      | none=>exact⟨_,rfl,.blk (cs:=cs) (by simp) (by simpa [ldC]using hv)⟩
      | some k =>
       simp only[ldC]at hv;split at hv
       ·rename_i hle;cases hv;refine⟨_,_,rfl,rfl,by simp;omega,fun j u hu=>?_⟩;rw[add_lit];refine .blk (cs:=cs) (by simp) ?_;simp only[List.getElem?_take,List.getElem?_drop]at hu;split at hu
        ·exact hu
        ·cases hu
       ·cases hv
     have hrun:(execOp a.eval o).run P w=.ok (.value v) w:=by
      simp only[execOp,ho,hx,Sem.run_bind,hld,Result.andThen_ok];rfl
     simp only[Oper.quietAt,hrun,Oper.quietUpon,and_self]
    ·exact hk.elim
   ·exact hk.elim
  ·exact normal hs hk
 case store t x y =>
  split at hs
  ·split at hs
   ·simp only[Option.bind_eq_some_iff,Option.map_eq_some_iff,Prod.mk.injEq]at hs;obtain⟨y',hy,i,hi,rfl,rfl,rfl⟩:=hs;simp[ly,opQ,fz]at hk
   ·cases hs
  ·exact normal hs hk
theorem n9{all:Array Oper}(hN:N≤99999)(hC:∀ w,C w→Sat β h w)(hCs:∀ w w',C w→Sat β h w'→Step β h w β h w'→C w'){Qa:Act→Prop}(hQ:∀ a' e',Rel r N rs vs β a' e' h→K e'→Qa a'):∀ (l:List Oper) (m:List ME) (sl:Ku) (a:Act) (e:Env),fC P N rs vs all l m=some sl →
  Rel r N rs vs β a e h→MapOk N rs vs β a e m→GM N m→ez P sl e h K→wpQuiet P all C Qa l a
 | [],m,sl,a,e,hs,hr,_,_,hk=>by
  simp only[fC,Option.some.injEq]at hs;subst hs;exact hQ a e hr hk
 | o :: l,m,sl,a,e,hs,hr,hm,hgm,hk=>by
  have hgm9:∀ x∈m,∀ p,x.g=some p→p.1 < 99999:=fun x hx p hp=>Nat.lt_of_lt_of_le (hgm x hx p hp) hN
  have go:∀ {s m' c g sl'},hU P N rs vs m g o=some (s,m',c)→(∀ p,g=some p→p.1 < N)→(g=none∨∃ d b,g=some (d,b)∧gOk (e d) b=true)→fC P N rs vs all l m'=some sl'→ly P c s e h (fun e=>ez P sl' e h K) →
    o.quiet P a C (wpQuiet P all C Qa l):=by
   intro s m' c g sl' h1 hgN hgo hsl hop;refine Oper.quiet_mono ?_ (qO h1 hN hr hC hCs hop hm hgm9 hgo);rintro a' ⟨e',r1,r2,r5⟩;exact n9 hN hC hCs hQ l m' sl' a' e' hsl r1 r2 (fy h1 hgm hgN) r5
  unfold wpQuiet;unfold fC at hs;split at hs
  ·rename_i hg;simp only[Option.bind_eq_some_iff,Option.map_eq_some_iff]at hs;obtain⟨⟨s,m',c⟩,h1,sl',h2,rfl⟩:=hs;rw[if_pos (by simp[Region.wanted,hg])];exact go h1 (fun p hp=>by cases hp) (.inl rfl) h2 hk
  ·rename_i j b hg;simp only[Option.bind_eq_some_iff]at hs;obtain⟨d0,hd0,hs⟩:=hs;split at hs
   ·rename_i hdc;simp only[Option.bind_eq_some_iff]at hs;obtain⟨⟨s,m',c⟩,h1,hs⟩:=hs;split at hs
    ·rename_i hsk;simp only[Option.map_eq_some_iff]at hs;obtain⟨sl',h2,rfl⟩:=hs;rw[gY hr (by simpa [Option.bind_eq_some_iff]using hd0) hdc.1 hdc.2 hg];simp only[ez]at hk;by_cases hgo:gOk (e d0) b=true
     ·rw[if_pos hgo]at hk ⊢;exact go h1 (fun p hp=>by cases hp;exact hdc.1) (.inr ⟨d0,b,rfl,hgo⟩) h2 hk
     ·rw[if_neg hgo]at hk ⊢;have hsn:=iq (o:=o) hsk hN hr hm (by simpa using hgo) (jX h1 (fun x hx=>(hm.ok x hx).1));exact n9 hN hC hCs hQ l m' sl' _ _ h2 hsn.1 hsn.2 (fy h1 hgm (fun p hp=>by cases hp;exact hdc.1)) hk
    ·cases hs
   ·cases hs
end quiet
def fY(ops:Array Oper):Bool:=ops.all fun o=>match o.op with | .defer _=>false | _=>true
theorem g9{ops:Array Oper}(h:fY ops=true)(j:Nat)(o:Oper)(ho:ops[j]?=some o):eZ o:=by
 intro c hc;have:=Array.all_eq_true.1 h j (by rcases Nat.lt_or_ge j ops.size with h' | h';exact h';rw[Array.getElem?_eq_none h']at ho;cases ho)
 rw[(Array.getElem?_eq_some_iff.1 ho).2]at this;simp[hc]at this
theorem sO{r:KI}{P:Program}{N:Nat}{rs vs:KF}{Q:Exit→KH}{e:Env}{h:H}{id:Nat}{ops:Array Oper}{sl:Ku}(hmix:P.follows .mixedOrders=true)(hlex:Region.lexB .any ops=true)(hnd:fY ops=true)(hN:N≤99999)
  (hs:fC P N rs vs ops ops.toList []=some sl) (hk:ez P sl e h fun e=>Q .normal e h):wpH r P N rs vs (.region id ops true) Q e h:=by
 intro β a w hr hw;have hlex':=hlex;simp only[Region.lexB,Bool.and_eq_true]at hlex'
 let C:World→Prop:=fun w'=>Sat β h w'∧Step β h w β h w'
 have hC0:C { w with drawn:=w.drawn+1 }:=⟨⟨hw.g,hw.l,hw.nd,hw.df,hw.d⟩,⟨rfl,rfl,rfl,Nat.le_refl _,fun _ _ _=>rfl,KO,fun _ h h'=>absurd h h',fun _ h=>.inl h,[],rfl,by simp⟩⟩
 have hq:=n9 (P:=P) (C:=C) (all:=ops) hN (fun w h=>h.1) (fun w1 w2 h1 h2 h3=>⟨h2,h1.2.trans h3⟩) (Qa:=fun a'=>∃ e',Rel r N rs vs β a' e' h∧Q .normal e' h) (fun a' e' h1 h2=>⟨e',h1,h2⟩) ops.toList [] sl a e hs hr ⟨fun x hx=>by cases hx⟩ (fun x hx=>by cases hx) hk;have hany:=wpAnyQ_lex (C:=C) (md:=.any) hlex'.1 ops.toList 0 (Array.replicate ops.size false) a (by simp) (by simpa using hlex'.2) hq
 refine wpIn_region_any hmix ?_;have:=ka (r:=r) (P:=P) (C:=C) (Q':=fw r N rs vs β h w Q) (g9 hnd) (fun a' w' hw' ⟨e',h1,h2⟩=>⟨β,e',h,h1,hw'.1,hw'.2,h2⟩) _ _ _ _ hC0 hany;simpa using this
end Go.Kx
namespace Go.Kx
open Go Go.RowKit
open List (getElem?_eq_getElem mem_of_getElem? length_append append_nil take_length)
section any
variable {r:KI} {P:Program} {md:Region.Mode} {ops:Array Oper} {C:World→Prop}
def nD(P:Program)(md:Region.Mode)(ops:Array Oper)(C:World→Prop)(n:Nat)(L:Array Bool→Act→Prop):Nat→Array Bool→Act→Prop
 | 0,listed,a=>L listed a
 | f+1,listed,a =>
  Region.ready md ops listed≠[]∧∀ i∈Region.ready md ops listed,i < n∧qOp P ops C i (nD P md ops C n L f (listed.setIfInBounds i true)) a
theorem j8{n g:Nat}{L:Array Bool→Act→Prop}{Q':Exit→Act→World→Prop}(hd:∀ (j:Nat) (o:Oper),ops[j]?=some o→eZ o)(hL:∀ listed a w,C w→L listed a→wpAnyIn (Fr r) 0 P md ops Q' g listed a w):
  ∀ (f:Nat) (listed:Array Bool) (a:Act) (w:World),C w→nD P md ops C n L f listed a→wpAnyIn (Fr r) 0 P md ops Q' (f+g) listed a w
 | 0,listed,a,w,hC,h=>by rw[Nat.zero_add];exact hL _ _ _ hC h
 | f+1,listed,a,w,hC,h=>by
  rw[show f+1+g=(f+g)+1 by omega];exact⟨fun h0=>absurd h0 h.1,fun i hi=>lO hd hC (fun a' w' hC' h'=>j8 hd hL f _ a' w' hC' h') (h.2 i hi).2⟩
theorem pS{n i:Nat}{oi:Oper}{v:Value}{L:Array Bool→Act→Prop}(hi:ops[i]?=some oi)(hsel:∀ (j:Nat) (o:Oper) cs b,ops[j]?=some o→o.op≠.select cs b)
  (hs:Region.sinkB md ops n=true) (hc:Region.chainB md ops n=true) (hn:n < ops.size) (hin:i < n)
  (hdone:∀ listed a,L listed a→∀ j∈Region.ready md ops listed,n≤j) :
  ∀ (f:Nat) (listed:Array Bool) (a:Act),HeadInv md ops n listed →
   (∀ j oj,ops[j]?=some oj→j≠i→listed.getD j true=false→(∀ e∈oj.after,Region.binds md e=true→e.on≠i)→oi.apart ops oj=true) →
   i∈Region.ready md ops listed→YieldsIn P ops C oi v a →
   nD P md ops C n L f (listed.setIfInBounds i true) (a.put oi.dst v)→nD P md ops C n L (f+1) listed a:=by
 intro f
 induction f with
 | zero =>
  intro listed a inv _ hr hy H;have hun:=(mem_ready.1 hr).1;refine⟨fun h=>(by rw[h]at hr;cases hr),fun j hj=>?_⟩;have hjn:j < n:=by
   rcases Nat.lt_or_ge j n with h | h
   ·exact h
   ·exact absurd hj (tail_waits hs hc hn inv _ i rfl hin hun j h)
  refine⟨hjn,?_⟩;by_cases hji:j=i
  ·subst hji;exact hy.qOp hi H
  ·have:=hdone _ _ H j (ready_mono hj hji);omega
 | succ f ih =>
  intro listed a inv hfree hr hy H;have hun:=(mem_ready.1 hr).1;refine⟨fun h=>(by rw[h]at hr;cases hr),fun j hj=>?_⟩;have hjn:j < n:=by
   rcases Nat.lt_or_ge j n with h | h
   ·exact h
   ·exact absurd hj (tail_waits hs hc hn inv _ i rfl hin hun j h)
  refine⟨hjn,?_⟩;by_cases hji:j=i
  ·subst hji;exact hy.qOp hi H
  ·have h1:=(H.2 j (ready_mono hj hji)).2;obtain⟨hjun,oj,hoj,hall⟩:=mem_ready.1 hj;have hnot:∀ e∈oj.after,Region.binds md e=true→e.on≠i:=fun e he hb heq=>by
    have h1:=hall e he hb;rw[heq,getD_both hun]at h1;cases h1
   have h2:=qOp_put hoj (hfree j oj hoj hji hjun hnot) (fun cs b=>hsel i oi cs b hi) (fun cs b=>hsel j oj cs b hoj) hy h1;have hfree':∀ k ok,ops[k]?=some ok→k≠i→(listed.setIfInBounds j true).getD k true=false →
     (∀ e∈ok.after,Region.binds md e=true→e.on≠i)→oi.apart ops ok=true:=fun k ok hk hki hun hno=>by
    refine hfree k ok hk hki ?_ hno;by_cases hjk:j=k
    ·subst hjk;exact hjun
    ·rw[getD_set_ne true hjk]at hun;exact hun
   refine qOp_mono (fun a' h3=>ih (listed.setIfInBounds j true) a' (inv.set hj hjn) hfree' (ready_mono hr (Ne.symm hji)) h3.1 ?_) h2;rw[Array.setIfInBounds_comm _ _ hji];exact h3.2
theorem js{Q':Exit→Act→World→Prop}:∀ (g k:Nat) (listed:Array Bool) (a:Act) (w:World),
  Region.seqB md ops g k listed=true→wpOpsIn (Fr r) 0 P ops Q' (List.range' k g) a w→wpAnyIn (Fr r) 0 P md ops Q' g listed a w
 | 0,_,_,_,_,hB,h=>⟨by simpa [Region.seqB]using hB,h⟩
 | g+1,k,listed,a,w,hB,h=>by
  simp only[Region.seqB,Bool.and_eq_true,decide_eq_true_eq]at hB;refine⟨fun h1=>(by rw[hB.1]at h1;cases h1),fun i hi=>?_⟩;rw[hB.1]at hi;have hik:i=k:=by simpa using hi
  subst hik;rw[List.range'_succ,wpOpsIn_cons]at h;exact wpOpIn_mono (fun a' w' h'=>js g (i+1) _ a' w' hB.2 h') h
theorem nW{n g:Nat}{Lq:Act→Prop}(hsel:Region.noSelect ops=true)(hs:Region.sinkB md ops n=true)(hc:Region.chainB md ops n=true)(hn:n < ops.size):
  ∀ (l:List Oper) (k:Nat) (listed:Array Bool) (a:Act),(∀ j,j < l.length→l[j]?=ops[k+j]?)→k+l.length=n→HeadInv md ops n listed →
  Region.lexHead md ops g l.length k listed=true→wpQuiet P ops C Lq l a →
  nD P md ops C n (fun listed' a'=>Region.seqB md ops g n listed'=true∧Lq a') l.length listed a
 | [],k,listed,a,_,hk,_,hB,h=>by
  have:k=n:=by simpa using hk
  subst this;exact⟨by simpa [Region.lexHead]using hB,h⟩
 | o :: l,k,listed,a,hl,hk,inv,hB,h=>by
  have h0:ops[k]?=some o:=by simpa using(hl 0 (by simp)).symm
  simp only[List.length_cons,Region.lexHead,Bool.and_eq_true]at hB;obtain⟨⟨hr,hf⟩,hB'⟩:=hB;have hkn:k < n:=by simp only[List.length_cons]at hk;omega
  have hr':k∈Region.ready md ops listed:=by simpa using hr
  have hst:qOp P ops C k (wpQuiet P ops C Lq l) a:=by unfold qOp;simp only[h0];exact h
  obtain⟨v,hy,hK⟩:=yieldsIn_of_qOp h0 hst;exact pS h0 (Region.noSelect_spec hsel) hs hc hn hkn (fun listed' a' hL=>seqB_ready hL.1) l.length listed a inv (Region.free_spec h0 hf) hr' hy
   (nW hsel hs hc hn l (k+1) _ _ (fun j hj=>by have:=hl (j+1) (by simp;omega);simpa [Nat.add_assoc,Nat.add_comm 1 j]using this) (by simp only[List.length_cons]at hk;omega) (inv.set hr' hkn) hB' hK)
end any
section quiet
variable {r:KI} {P:Program} {N:Nat} {rs vs:KF} {β:Nat→Nat} {a:Act} {w:World} {e:Env} {h:H} {C:World→Prop} {K:Env→Prop}
theorem mI{all:Array Oper}(hN:N≤99999)(hC:∀ w,C w→Sat β h w)(hCs:∀ w w',C w→Sat β h w'→Step β h w β h w'→C w')(l2:List Oper):∀ (l:List Oper) (m:List ME) (sl:Ku) (a:Act) (e:Env),fC P N rs vs all (l++l2) m=some sl →
  Rel r N rs vs β a e h→MapOk N rs vs β a e m→GM N m→ez P (sl.take l.length) e h K→wpQuiet P all C (fun a'=>∃ e' m',Rel r N rs vs β a' e' h∧MapOk N rs vs β a' e' m'∧GM N m'∧fC P N rs vs all l2 m'=some (sl.drop l.length)∧K e') l a
 | [],m,sl,a,e,hs,hr,hm,hgm,hk=>⟨e,m,hr,hm,hgm,by simpa using hs,by simpa [ez]using hk⟩
 | o :: l,m,sl,a,e,hs,hr,hm,hgm,hk=>by
  have hgm9:∀ x∈m,∀ p,x.g=some p→p.1 < 99999:=fun x hx p hp=>Nat.lt_of_lt_of_le (hgm x hx p hp) hN
  have go:∀ {s m' c g sl'},hU P N rs vs m g o=some (s,m',c)→(∀ p,g=some p→p.1 < N)→(g=none∨∃ d b,g=some (d,b)∧gOk (e d) b=true)→fC P N rs vs all (l++l2) m'=some sl'→ly P c s e h (fun e=>ez P (sl'.take l.length) e h K) →
    o.quiet P a C (wpQuiet P all C (fun a'=>∃ e' m',Rel r N rs vs β a' e' h∧MapOk N rs vs β a' e' m'∧GM N m'∧fC P N rs vs all l2 m'=some (sl'.drop l.length)∧K e') l):=by
   intro s m' c g sl' h1 hgN hgo hsl hop;refine Oper.quiet_mono ?_ (qO h1 hN hr hC hCs hop hm hgm9 hgo);rintro a' ⟨e',r1,r2,r5⟩;exact mI hN hC hCs l2 l m' sl' a' e' hsl r1 r2 (fy h1 hgm hgN) r5
  unfold wpQuiet;rw[List.cons_append]at hs;unfold fC at hs;split at hs
  ·rename_i hg;simp only[Option.bind_eq_some_iff,Option.map_eq_some_iff]at hs;obtain⟨⟨s,m',c⟩,h1,sl',h2,rfl⟩:=hs;rw[if_pos (by simp[Region.wanted,hg])];exact go h1 (fun p hp=>by cases hp) (.inl rfl) h2 hk
  ·rename_i j b hg;simp only[Option.bind_eq_some_iff]at hs;obtain⟨d0,hd0,hs⟩:=hs;split at hs
   ·rename_i hdc;simp only[Option.bind_eq_some_iff]at hs;obtain⟨⟨s,m',c⟩,h1,hs⟩:=hs;split at hs
    ·rename_i hsk;simp only[Option.map_eq_some_iff]at hs;obtain⟨sl',h2,rfl⟩:=hs;rw[gY hr (by simpa [Option.bind_eq_some_iff]using hd0) hdc.1 hdc.2 hg];simp only[List.length_cons,List.take_succ_cons,ez]at hk;by_cases hgo:gOk (e d0) b=true
     ·rw[if_pos hgo]at hk ⊢;exact go h1 (fun p hp=>by cases hp;exact hdc.1) (.inr ⟨d0,b,rfl,hgo⟩) h2 hk
     ·rw[if_neg hgo]at hk ⊢;have hsn:=iq (o:=o) hsk hN hr hm (by simpa using hgo) (jX h1 (fun x hx=>(hm.ok x hx).1));exact mI hN hC hCs l2 l m' sl' _ _ h2 hsn.1 hsn.2 (fy h1 hgm (fun p hp=>by cases hp;exact hdc.1)) hk
    ·cases hs
   ·cases hs
end quiet
theorem sD{r:KI}{P:Program}{N:Nat}{rs vs:KF}{Q:Exit→KH}{e:Env}{h:H}{id:Nat}{ops:Array Oper}{sl:Ku}(n:Nat)(hmix:P.follows .mixedOrders=true)(hB:Region.lexTailB .any ops n=true)(hnd:fY ops=true)(hN:N≤99999)
  (hs:fC P N rs vs ops ops.toList []=some sl) (hk:ez P (sl.take n) e h fun e=>eb P (sl.drop n) e h fun e h=>Q .normal e h):wpH r P N rs vs (.region id ops true) Q e h:=by
 intro β a w hr hw;simp only[Region.lexTailB,Bool.and_eq_true,decide_eq_true_eq]at hB;obtain⟨⟨⟨⟨hsel,hn⟩,hsk⟩,hc⟩,hlex⟩:=hB
 let C:World→Prop:=fun w'=>Sat β h w'∧Step β h w β h w'
 have hC0:C { w with drawn:=w.drawn+1 }:=⟨⟨hw.g,hw.l,hw.nd,hw.df,hw.d⟩,⟨rfl,rfl,rfl,Nat.le_refl _,fun _ _ _=>rfl,KO,fun _ h h'=>absurd h h',fun _ h=>.inl h,[],rfl,by simp⟩⟩;have hn':n < ops.toList.length:=by simpa using hn
 have htl:(ops.toList.take n).length=n:=by simp;omega
 have hq:=mI (r:=r) (P:=P) (C:=C) (all:=ops) hN (fun w h=>h.1) (fun w1 w2 h1 h2 h3=>⟨h2,h1.2.trans h3⟩) (ops.toList.drop n) (ops.toList.take n) [] sl a e (by rw[List.take_append_drop];exact hs) hr ⟨fun x hx=>by cases hx⟩ (fun x hx=>by cases hx) (by rw[htl];exact hk);rw[htl]at hq;have inv0:HeadInv .any ops n (Array.replicate ops.size false) :=
  ⟨by simp,fun j oj _ hl=>(by rw[getD_replicate_false]at hl;cases hl),fun t _ ht=>getD_in (by simpa using ht) (getD_replicate_false _ _)⟩
 have H:=nW (C:=C) (md:=.any) (g:=ops.size - n) hsel hsk hc hn (ops.toList.take n) 0 _ a (fun j hj=>by
  have hj':j < n:=by rw[htl]at hj;exact hj
  simp[hj']) (by simpa using htl) inv0 (by rw[htl];exact hlex) hq
 refine wpIn_mono (Q:=fw r N rs vs β h w (fl (fun e h=>Q .normal e h) Q)) (wpIn_region_any hmix ?_) (fun x a w ⟨β',e',h',q1,q2,q3,q4⟩=>⟨β',e',h',q1,q2,q3,by cases x <;> exact q4⟩);have:=j8 (r:=r) (P:=P) (C:=C) (g:=ops.size - n) (Q':=fw r N rs vs β h w (fl (fun e h=>Q .normal e h) Q)) (g9 hnd) (fun listed a' w' hCw ⟨hseq,e',m',r1,r2,r3,r4,r5⟩=>by
  refine js _ _ _ _ _ hseq ?_
  have hso:=kv (P:=P) (Q:=Q) (all:=ops) (K:=fun e h=>Q .normal e h) hN (ops.toList.drop n) n m' (sl.drop n) β a' w' e' h (fun j=>by simp[List.getElem?_drop]) r4 r1 r2 r3 hCw.1 hCw.2 r5
  have hlen:(ops.toList.drop n).length=ops.size - n:=by simp
  rw[hlen]at hso
  exact hso) _ _ _ _ hC0 H
 rw[htl,show n+(ops.size - n)=ops.size by omega]at this;exact this
end Go.Kx
namespace Go.Kx
open Go Go.RowKit
open List (getElem?_eq_getElem mem_of_getElem? length_append append_nil take_length)
def eY:SOp→Bool
 | .call _ _ _ | .cav _ _ _=>false
 | _=>true
def iJ:SOp→Bool
 | .ld _ _ _ | .cvS _ _ | .ldR _ _ _ _=>true
 | _=>false
def GV(P:Program)(o:Oper)(a:Act)(C:World→Prop)(next:Act→Prop):Prop:=∃ v,(∀ w,C w→(execOp a.eval o).run P w=.ok (.value v) w)∧next (a.put o.dst v)
section yld
variable {r:KI} {P:Program} {N:Nat} {rs vs:KF} {β:Nat→Nat} {a:Act} {w:World} {e:Env} {h:H} {o:Oper} {K:Env→Prop} {s:SOp} {d:Nat} {m m':List ME} {g:Option (Nat × Bool)} {c:KI} {C:World→Prop}
theorem CX(hs:jN P N vs o=some s)(hN:N≤99999)(hr:Rel r N rs vs β a e h)(hC:iJ s=true→∀ w,C w→Sat β h w)(hnc:eY s=true)(hk:opQ P s e h K)(hm:MapOk N rs vs β a e m)(hg:∀ x∈m,∀ p,x.g=some p→p.1 < 99999):
  GV P o a C (l8 r N rs vs β h (jq m o.dst) K):=by
 have fin:∀ {v:Value} {d:Nat},mh vs o=some d→(∀ w,C w→(execOp a.eval o).run P w=.ok (.value v) w)→K (e.set d v)→GV P o a C (l8 r N rs vs β h (jq m o.dst) K):=by
  intro v d hd hrun hk;exact⟨v,hrun,_,hr.put hN hd v,hm.keep hg (fun _ _=>rfl) (gI hd v),hk⟩
 by_cases hp:oS s=true
 ·obtain⟨v,hv,hk⟩:=tm hp hk;have h0:=fun w=>mq (w:=w) hs hr hv
  exact fin (h0 default).2.1 (fun w _=>(h0 w).2.2) hk
 have hmem:=nY hs (by simpa using hp);cases hmem with
 | al | bx | st | bls | app | bl0 | apz | clr=>simp[opQ,fz]at hk
 | @ld d t x y n ho hd hx hn =>
  obtain⟨v,hv,hk⟩:=hk;exact fin hd (fun w hw=>by simp only[execOp,ho,eM hr hx,Sem.run_bind,im (hC rfl w hw) hn hv,Result.andThen_ok];rfl) hk
 | @cvS d src dst x y el ho hd hx hs1 ht1 he1 =>
  obtain⟨s,hv,hk⟩:=hk;exact fin hd (fun w hw=>by simp only[execOp,ho,eM hr hx,Sem.run_bind,sY hs1 ht1 he1 (hC rfl w hw) hv,Result.andThen_ok];rfl) hk
 | @ixA d t x y j k el i ho hd hx hj ht hi =>
  simp only[opQ]at hk;split at hk
  ·rename_i A n c kk jj hA hjj;obtain⟨⟨b1,b2⟩,ad,rfl,hk⟩:=hk;refine fin hd (fun w _=>?_) hk;simp[execOp,ho,eM hr hx,eM hr hj,hA,hjj,Instr.indexAt,asIntOf,run_underlying ht,b1,b2,ft hi]
  ·exact hk.elim
 | @sl d t x y lo hi mx lo' hi' mx' el i ho hd hx hl hh hmm hmh ht hi2 =>
  simp only[opQ]at hk;split at hk
  ·rename_i A n c hA;split at hk
   ·rename_i l u m e1 e2 e3;obtain⟨hb,hk⟩:=hk;refine fin hd (fun w _=>?_) hk;have:=nz (P:=P) (w:=w) (A:=A) ht hi2 e1 e2 e3 hmh hb;simp only[execOp,ho,eM hr hx,iK hr hl,iK hr hh,iK hr hmm,hA,Sem.run_bind,this,Result.andThen_ok];rfl
   ·exact hk.elim
  ·exact hk.elim
 | call=>cases hnc
 | cav=>cases hnc
theorem py(hs:hU P N rs vs m g o=some (s,m',c))(hN:N≤99999)(hr:Rel r N rs vs β a e h)(hC:iJ s=true→∀ w,C w→Sat β h w)(hnc:eY s=true)(hk:ly P c s e h K)(hm:MapOk N rs vs β a e m)(hg:∀ x∈m,∀ p,x.g=some p→p.1 < 99999)
  (hgo:g=none∨∃ d b,g=some (d,b)∧gOk (e d) b=true):GV P o a C (l8 r N rs vs β h m' K):=by
 have normal:∀ {s m' c},(jN P N vs o).map (fun x=>(x,jq m o.dst,(none:KI)))=some (s,m',c)→eY s=true→(iJ s=true→∀ w,C w→Sat β h w)→ly P c s e h K→GV P o a C (l8 r N rs vs β h m' K):=by
  intro s m' c hs hnc hC hk;simp only[Option.map_eq_some_iff,Prod.mk.injEq]at hs;obtain⟨x,hx,rfl,rfl,rfl⟩:=hs;exact CX hx hN hr hC hnc hk hm hg
 unfold hU at hs;cases ho:o.op <;> simp only[ho]at hs <;> try exact normal hs hnc hC hk
 case alloc t =>
  split at hs
  ·split at hs
   ·split at hs
    ·simp only[Option.map_eq_some_iff,Option.bind_eq_some_iff,Prod.mk.injEq]at hs;obtain⟨z,⟨i,hi,hz⟩,rfl,rfl,rfl⟩:=hs;simp[ly,opQ,fz]at hk
    ·cases hs
   ·exact normal hs hnc hC hk
  ·cases hs
 case box t x =>
  split at hs
  ·split at hs
   ·split at hs
    ·simp only[Option.map_eq_some_iff,Prod.mk.injEq]at hs;obtain⟨y,hy,rfl,rfl,rfl⟩:=hs;simp[ly,opQ,fz]at hk
    ·cases hs
   ·exact normal hs hnc hC hk
  ·cases hs
 case fieldAddr t x f =>
  split at hs
  ·rename_i s0 off hl;split at hs
   ·rename_i d fs hd hu;split at hs
    ·rename_i hc;simp only[Option.bind_eq_some_iff]at hs;obtain⟨fd,hfd,i,hi,hs⟩:=hs;split at hs
     ·cases hs
     ·rename_i hne;simp only[Option.some.injEq,Prod.mk.injEq]at hs;obtain⟨rfl,rfl,rfl⟩:=hs;have hreg:(∀ n,rI rs x=some n→∃ cs,Item.reg n cs∈h.L)∧K e:=by
       unfold ly at hk;split at hk
       ·rename_i hn;exact⟨fun n hn'=>(by rw[hn]at hn';cases hn'),hk⟩
       ·rename_i n hn;split at hk
        ·rename_i cs hcs;exact⟨fun n' hn'=>(by rw[hn]at hn';cases hn';exact⟨cs,gO hcs⟩),hk⟩
        ·exact hk.elim
      have hx:=jS hl hr hm hgo hreg.1;have hdv:d∈vs:=by simpa using hc.1
      refine⟨.pointer (some ⟨β s0,off+fd.offset,none⟩),fun w _=>?_,e,?_,?_,hreg.2⟩
      ·have:(execOp a.eval o).run P w=.ok (.value (.pointer (some ⟨β s0,off+fd.offset,none⟩))) w:=by
        simp[execOp,ho,hx,Instr.fieldAt,run_underlying hu,hfd,Instr.sureAddr,fieldPlace,ft hi,hne,add_lit]
       exact this
      ·rw[hd];refine⟨by simp[Act.put,hr.size],fun i hi hv=>?_,fun s' cs' hs'=>?_,hr.dfr⟩
       ·rw[fb (fun he=>hv (by rw[← he];exact hdv))];exact hr.env i hi hv
       ·obtain⟨g1,g2,g3⟩:=hr.reg s' cs' hs';refine⟨g1,g2,?_⟩;have hne:¬ d=s':=fun he=>by
         have h1:rs.contains d=true:=by rw[he];simpa using g1.1
         rw[hc.2.1]at h1;cases h1
        rw[fb hne];exact g3
      ·rw[hd];constructor;intro y hy;rcases List.mem_cons.1 hy with rfl | hy
       ·exact⟨⟨hdv,hc.2.1⟩,fun _=>iT (by rw[hr.size];exact hc.2.2)⟩
       ·obtain⟨hy,hyd⟩:=List.mem_filter.1 hy;obtain⟨g1,g2⟩:=hm.ok y hy;refine⟨g1,fun hgy=>?_⟩;have hne:¬ d=y.d:=fun he=>by simp[he]at hyd
        rw[fb hne];exact g2 hgy
    ·cases hs
   ·cases hs
  ·exact normal hs hnc hC hk
 case load t x =>
  split at hs
  ·rename_i s0 off hl;simp only[Option.bind_eq_some_iff,Option.map_eq_some_iff,Prod.mk.injEq]at hs;obtain⟨d,hd,n,hn,rfl,rfl,rfl⟩:=hs;simp only[ly,opQ]at hk;split at hk
   ·rename_i cs hcs;split at hk
    ·rename_i v hv;have hx:=jS hl hr hm hgo (fun n' hn'=>⟨cs,by rw[← (kG hl hn').1];exact gO hcs⟩);refine⟨v,fun w hw=>?_,_,hr.put hN hd v,hm.keep hg (fun _ _=>rfl) (gI hd v),hk⟩;obtain⟨te,hte⟩:=(hC rfl w hw).l _ (gO hcs);have hld:(Instr.loadAt t (.pointer (some ⟨β s0,off,none⟩))).run P w=.ok v w:=by
      have hsat:Sat β ⟨fun _=>none,[.blk (β s0) cs],[]⟩ w:=⟨fun _ _ h=>(by cases h),fun it hit=>(by simp at hit;subst hit;exact⟨te,hte⟩),by simp[dom,Item.block],fun _ _=>rfl,fun _ h=>(by cases h)⟩;refine im hsat hn ?_;cases n with
      | none=>exact⟨_,rfl,.blk (cs:=cs) (by simp) (by simpa [ldC]using hv)⟩
      | some k =>
       simp only[ldC]at hv;split at hv
       ·rename_i hle;cases hv;refine⟨_,_,rfl,rfl,by simp;omega,fun j u hu=>?_⟩;rw[add_lit];refine .blk (cs:=cs) (by simp) ?_;simp only[List.getElem?_take,List.getElem?_drop]at hu;split at hu
        ·exact hu
        ·cases hu
       ·cases hv
     have hrun:(execOp a.eval o).run P w=.ok (.value v) w:=by
      simp only[execOp,ho,hx,Sem.run_bind,hld,Result.andThen_ok];rfl
     exact hrun
    ·exact hk.elim
   ·exact hk.elim
  ·exact normal hs hnc hC hk
 case store t x y =>
  split at hs
  ·split at hs
   ·simp only[Option.bind_eq_some_iff,Option.map_eq_some_iff,Prod.mk.injEq]at hs;obtain⟨y',hy,i,hi,rfl,rfl,rfl⟩:=hs;simp[ly,opQ,fz]at hk
   ·cases hs
  ·exact normal hs hnc hC hk
end yld
section held
variable {r:KI} {P:Program} {md:Region.Mode} {ops:Array Oper} {Q:Exit→Act→World→Prop} {S:World→Prop}
theorem iR{i:Nat}{o:Oper}{v:Value}{a:Act}(hd:eZ o)(hi:ops[i]?=some o)(hy:YieldsIf P ops S o v a)
  {K:Act→World→Prop} {w:World} (hS:S w) (h:K (a.put o.dst v) w):wpOpIn (Fr r) 0 P ops Q i K a w:=by
 unfold Go.wpOpIn;simp only[hi];rcases hy with⟨hw,hv⟩ | ⟨hw,rfl⟩
 ·simp only[hw,if_true];exact kN hd (hv w hS) h
 ·simp only[hw,Bool.false_eq_true,if_false];exact⟨fun _ _=>trivial,h⟩
theorem ki{j:Nat}{oi oj:Oper}{v:Value}(hdj:eZ oj)(hj:ops[j]?=some oj)(hap:oi.apart ops oj=true)
  (hsi:∀ cs b,oi.op≠.select cs b) (hsj:∀ cs b,oj.op≠.select cs b)
  (hQ:∀ c a w,Q (.panic c) (a.put oi.dst v) w→Q (.panic c) a w) {K:Act→World→Prop} {a:Act} {w:World}
  (hy:YieldsIf P ops S oi v a) (h:wpOpIn (Fr r) 0 P ops Q j K (a.put oi.dst v) w) :
  wpOpIn (Fr r) 0 P ops Q j (fun a' w'=>YieldsIf P ops S oi v a'∧K (a'.put oi.dst v) w') a w:=by
 obtain⟨h1,h2,h3⟩:=Oper.apart_spec hap;have keep:∀ (a:Act),YieldsIf P ops S oi v a→∀ u,YieldsIf P ops S oi v (a.put oj.dst u):=fun a hy u =>
  hy.of_same (execOp_put oi hsi a oj.dst u h3) (wanted_put oi a oj.dst u h3)
 unfold wpOpIn at *;simp only[hj]at *;rw[wanted_put oj a oi.dst v h1]at h;split
 ·rename_i hw;simp only[hw,if_true]at h;unfold Oper.wpIn at *;refine⟨fun _ _=>trivial,?_⟩;have h:=h.2;rw[Oper.semAt_eq _ _ _ hdj,execOp_put oj hsj a oi.dst v h1]at h;rw[Oper.semAt_eq _ _ _ hdj];generalize (execOp a.eval oj).run P w=res at *;cases res with
  | ok x w' =>
   cases x <;> simp only[Oper.uponIn]at h ⊢
   case value u=>exact⟨keep a hy u,by rw[← Act.put_comm a v u h2];exact h⟩
   case skip=>exact⟨keep a hy _,by rw[← Act.put_comm a v undef h2];exact h⟩
   case defer d =>
    refine⟨?_,?_⟩
    ·exact(hy.of_same (a':={ a with defers:=d :: a.defers }) rfl rfl).of_same (execOp_put oi hsi _ oj.dst _ h3) (wanted_put oi _ oj.dst _ h3)
    ·rw[← Act.put_comm _ v undef h2,← Act.put_defers];exact h
   case enter f args =>
    refine⟨h.1,CallsIn.mono h.2 fun e w'' he=>?_⟩;cases e with
    | returned u=>exact⟨keep a hy u,by rw[← Act.put_comm a v u h2];exact he⟩
    | panicked c=>exact hQ _ _ _ he
    | outgrown=>exact he
   case row row args=>exact⟨h.1,RowsIn.mono h.2 fun u w'' he=>⟨keep a hy u,by rw[← Act.put_comm a v u h2];exact he⟩⟩
   case round l f tmps assign body =>
    refine⟨h.1,RoundIn.mono h.2 fun e w'' he=>?_⟩;cases e with
    | returned u=>exact⟨keep a hy u,by rw[← Act.put_comm a v u h2];exact he⟩
    | panicked c=>exact hQ _ _ _ he
    | outgrown=>exact he
  | halt x w' =>
   cases x <;> simp only[Oper.uponIn]at h ⊢
   case panic u=>exact hQ _ _ _ h
 ·rename_i hw;simp only[hw]at h;exact⟨fun _ _=>trivial,keep a hy _,by rw[← Act.put_comm a v undef h2];exact h.2⟩
def gp(r:KI)(P:Program)(md:Region.Mode)(ops:Array Oper)(Q:Exit→Act→World→Prop)(S:World→Prop):Nat→Array Bool→Act→World→Prop
 | 0,listed,a,w=>Region.ready md ops listed=[]∧Q .normal a w
 | fuel+1,listed,a,w =>
  (Region.ready md ops listed=[]→Q .normal a w) ∧
  ∀ i∈Region.ready md ops listed,wpOpIn (Fr r) 0 P ops Q i (fun a' w'=>S w'∧gp r P md ops Q S fuel (listed.setIfInBounds i true) a' w') a w
theorem iZ:∀ (fuel:Nat) (listed:Array Bool) (a:Act) (w:World),gp r P md ops Q S fuel listed a w→wpAnyIn (Fr r) 0 P md ops Q fuel listed a w
 | 0,_,_,_,h=>h
 | fuel+1,_,_,_,h=>⟨h.1,fun i hi=>wpOpIn_mono (fun a' w' h'=>iZ fuel _ a' w' h'.2) (h.2 i hi)⟩
theorem iI{i:Nat}{oi:Oper}{v:Value}(hd:∀ (j:Nat) (o:Oper),ops[j]?=some o→eZ o)(hi:ops[i]?=some oi)(hsel:∀ (j:Nat) (o:Oper) cs b,ops[j]?=some o→o.op≠.select cs b)
  (hQ:∀ c a w,Q (.panic c) (a.put oi.dst v) w→Q (.panic c) a w) :
  ∀ (fuel:Nat) (listed:Array Bool) (a:Act) (w:World),
   (∀ j oj,ops[j]?=some oj→j≠i→listed.getD j true=false→(∀ e∈oj.after,Region.binds md e=true→e.on≠i)→oi.apart ops oj=true) →
   i∈Region.ready md ops listed→YieldsIf P ops S oi v a→S w →
   gp r P md ops Q S fuel (listed.setIfInBounds i true) (a.put oi.dst v) w→gp r P md ops Q S (fuel+1) listed a w:=by
 intro fuel
 induction fuel with
 | zero =>
  intro listed a w _ hr hy hS H;refine⟨fun h=>(by rw[h]at hr;cases hr),fun j hj=>?_⟩;by_cases hji:j=i
  ·subst hji;exact iR (hd _ _ hi) hi hy hS ⟨hS,H⟩
  ·have:=ready_mono hj hji;rw[H.1]at this;cases this
 | succ fuel ih =>
  intro listed a w hfree hr hy hS H;refine⟨fun h=>(by rw[h]at hr;cases hr),fun j hj=>?_⟩;by_cases hji:j=i
  ·subst hji;exact iR (hd _ _ hi) hi hy hS ⟨hS,H⟩
  ·have h1:=H.2 j (ready_mono hj hji);obtain⟨hjun,oj,hoj,hall⟩:=mem_ready.1 hj;have hnot:∀ e∈oj.after,Region.binds md e=true→e.on≠i:=fun e he hb heq=>by
    have h1:=hall e he hb;have h0:=(mem_ready.1 hr).1;rw[heq]at h1;rcases Nat.lt_or_ge i listed.size with h' | h'
    ·simp[h']at h0 h1;rw[h0]at h1;cases h1
    ·simp[Array.getElem?_eq_none h']at h1
   have h2:=ki (hd _ _ hoj) hoj (hfree j oj hoj hji hjun hnot) (fun cs b=>hsel i oi cs b hi) (fun cs b=>hsel j oj cs b hoj) hQ hy h1;have hfree':∀ k ok,ops[k]?=some ok→k≠i→(listed.setIfInBounds j true).getD k true=false →
     (∀ e∈ok.after,Region.binds md e=true→e.on≠i)→oi.apart ops ok=true:=fun k ok hk hki hun hno=>by
    refine hfree k ok hk hki ?_ hno;by_cases hjk:j=k
    ·subst hjk;exact hjun
    ·rw[getD_set_ne true hjk]at hun;exact hun
   refine wpOpIn_mono (fun a' w' h3=>⟨h3.2.1,ih (listed.setIfInBounds j true) a' w' hfree' (ready_mono hr (Ne.symm hji)) h3.1 h3.2.1 ?_⟩) h2;rw[Array.setIfInBounds_comm _ _ hji];exact h3.2.2
end held
theorem lP{r:KI}{P:Program}{o:Oper}{a:Act}{w:World}{X:Act→World→Prop}{Q:Exit→Act→World→Prop}(hd:eZ o)(h:o.wpIn (Fr r) 0 P a w X Q):o.wpIn (Fr r) 0 P a w (fun a' w'=>X a' w'∧∃ v,a'.tmps=(a.put o.dst v).tmps) Q:=by
 obtain⟨h0,h⟩:=h;refine⟨h0,?_⟩;rw[Oper.semAt_eq _ _ _ hd]at h ⊢;generalize (execOp a.eval o).run P w=res at *;cases res with
 | ok x w' =>
  cases x <;> simp only[Oper.uponIn]at h ⊢
  case value u=>exact⟨h,_,rfl⟩
  case skip=>exact⟨h,_,rfl⟩
  case defer d=>exact⟨h,undef,by cases o.dst <;> rfl⟩
  case enter f args =>
   refine⟨h.1,CallsIn.mono h.2 fun e w'' he=>?_⟩;cases e with
   | returned u=>exact⟨he,_,rfl⟩
   | panicked c=>exact he
   | outgrown=>exact he
  case row row args=>exact⟨h.1,RowsIn.mono h.2 fun u w'' he=>⟨he,_,rfl⟩⟩
  case round l f tmps assign body =>
   refine⟨h.1,RoundIn.mono h.2 fun e w'' he=>?_⟩;cases e with
   | returned u=>exact⟨he,_,rfl⟩
   | panicked c=>exact he
   | outgrown=>exact he
 | halt x w'=>cases x <;> simp only[Oper.uponIn]at h ⊢;exact h
def je(md:Region.Mode)(ops:Array Oper):List (Bool × Nat)→Array Bool→Bool
 | [],listed=>(Region.ready md ops listed).isEmpty
 | (true,i) :: l,listed=>(Region.ready md ops listed).contains i && Region.free md ops listed i && je md ops l (listed.setIfInBounds i true)
 | (false,i) :: l,listed=>decide (Region.ready md ops listed=[i]) && je md ops l (listed.setIfInBounds i true)
def gK(ops:Array Oper)(σ:List (Bool × Nat)):Option (List Oper):=σ.mapM fun p=>ops[p.2]?
def ow(h1 h:H):Prop:=(∀ b o,h1.G b=some o→h.G b=some o)∧h1.L.Sublist h.L∧h.D=h1.D
def ew(P:Program)(h1:H):List (Bool × SI)→Env→H→(KH)→Prop
 | [],e,h,K=>K e h
 | (true,⟨none,s,c,_⟩) :: l,e,h,K=>ly P c s e h1 fun e=>ew P h1 l e h K
 | (true,⟨some (d,b),s,c,k⟩) :: l,e,h,K=>if gOk (e d) b=true then ly P c s e h1 fun e=>ew P h1 l e h K else ew P h1 l (e.set k undef) h K
 | (false,⟨none,s,c,_⟩) :: l,e,h,K=>opC P c s e h fun e h=>ow h1 h∧ew P h1 l e h K
 | (false,⟨some (d,b),s,c,k⟩) :: l,e,h,K=>if gOk (e d) b=true then opC P c s e h fun e h=>ow h1 h∧ew P h1 l e h K else ew P h1 l (e.set k undef) h K
section sched
variable {r:KI} {P:Program} {N:Nat} {rs vs:KF} {K:KH}
theorem gg{β β0:Nat→Nat}{h:H}{w:World}(ha:∀ s cs,Item.reg s cs∈h.L→β s=β0 s)(hs:Sat β h w):Sat β0 h w:=by
 have hd:dom β0 h.L=dom β h.L:=by
  obtain⟨G,L,D⟩:=h;dsimp only at ha ⊢;clear hs;unfold dom
  induction L with
  | nil=>rfl
  | cons it L ih =>
   have h2:=ih fun s cs hm=>ha s cs (.tail _ hm)
   have h1:it.block β0=it.block β:=by
    cases it with
    | reg s cs=>simp[Item.block,ha s cs (.head _)]
    | _=>rfl
   simp only[List.filterMap_cons,h1,h2]
 refine⟨hs.g,fun it hit=>?_,by rw[hd];exact hs.nd,fun b hb=>hs.df b (by rw[← hd];exact hb),hs.d⟩;have:=hs.l it hit;cases it with
 | reg s cs =>
  obtain⟨t,ht⟩:=this;exact⟨t,by rw[← ha s cs hit];exact ht⟩
 | blk b cs=>exact this
 | row v e sz n xs=>exact this
 | obj b o=>exact this
theorem jm{β:Nat→Nat}{h1 h:H}{w:World}(hg:ow h1 h)(hs:Sat β h w):Sat β h1 w:=by
 obtain⟨G,L,D⟩:=h;obtain⟨G1,L1,D1⟩:=h1;obtain⟨g1,g2,g3⟩:=hg;dsimp only at g1 g2 g3;subst g3;have hd:(dom β L1++D).Sublist (dom β L++D):=(g2.filterMap _).append KJ;refine⟨fun b o h=>hs.g b o (g1 b o h),fun it h=>hs.l it (g2.subset h),hd.nodup hs.nd,fun b hb=>?_,hs.d⟩;have h0:=hs.df b (hd.subset hb);show G1 b=none;cases hgb:G1 b with
 | none=>rfl
 | some o=>have:=g1 b o hgb;dsimp only at h0;rw[h0]at this;cases this
def hZ(rs:KF)(o:Oper):Bool:=match o.dst with | some d=>!rs.contains d | none=>true
theorem nr{β:Nat→Nat}{a:Act}{e:Env}{h1 h:H}(hg:ow h1 h)(hr:Rel r N rs vs β a e h):Rel r N rs vs β a e h1 :=
 ⟨hr.size,hr.env,fun s cs hm=>hr.reg s cs (hg.2.1.subset hm),by rw[hr.dfr,hg.2.2]⟩
theorem rF{a:Act}{o:Oper}{v:Value}{s:Nat}(hs:rs.contains s=true)(hd:hZ rs o=true):(a.put o.dst v).tmps.getD s undef=a.tmps.getD s undef:=by
 unfold hZ at hd;cases ho:o.dst with
 | none=>rfl
 | some d =>
  rw[ho]at hd;refine fb fun he=>?_
  subst he;simp only[Bool.not_eq_true']at hd;rw[hd]at hs;cases hs
theorem np{β:Nat→Nat}{a:Act}{e e':Env}{h1 h:H}{o:Oper}{v:Value}(hg:ow h1 h)(hd:hZ rs o=true)(hr:Rel r N rs vs β a e h)(hr1:Rel r N rs vs β (a.put o.dst v) e' h1):Rel r N rs vs β (a.put o.dst v) e' h :=
 ⟨hr1.size,hr1.env,fun s cs hm=>by
  obtain⟨q1,q2,q3⟩:=hr.reg s cs hm
  exact⟨q1,q2,by rw[rF (by simpa using q1.1) hd];exact q3⟩,by rw[hr1.dfr,hg.2.2]⟩
theorem jU{ops:Array Oper}(hN:N≤99999)(hsel:Region.noSelect ops=true)(hnd:∀ (j:Nat) (o:Oper),ops[j]?=some o→eZ o)(hdst:ops.all (hZ rs)=true){β0:Nat→Nat}{h0 h1:H}{w0:World}:
  ∀ (σ:List (Bool × Nat)) (listed:Array Bool) (ol:List Oper) (m:List ME) (sl:Ku) (β:Nat→Nat) (a:Act) (w:World) (e:Env) (h:H),je .any ops σ listed=true→gK ops σ=some ol→fC P N rs vs ops ol m=some sl →
  (((σ.map (·.1)).zip sl).all fun p=>!p.1 || eY p.2.s)=true→Rel r N rs vs β a e h→MapOk N rs vs β a e m→GM N m→Sat β h w→Step β0 h0 w0 β h w→ow h1 h→(∀ s cs,Item.reg s cs∈h1.L→β s=β0 s)→ew P h1 ((σ.map (·.1)).zip sl) e h K →
  gp r P .any ops (fw r N rs vs β0 h0 w0 (fl K (fun _ _ _=>False))) (Sat β0 h1) σ.length listed a w
 | [],listed,ol,m,sl,β,a,w,e,h,hB,_,_,_,hr,_,_,hw,hst,_,_,hk=>by
  simp only[List.map_nil,List.zip_nil_left,ew]at hk;exact⟨by simpa [je]using hB,β,e,h,hr,hw,hst,hk⟩
 | (t,i) :: σ,listed,ol,m,sl,β,a,w,e,h,hB,hol,hs,hfl,hr,hm,hgm,hw,hst,hgr,hag,hk=>by
  simp only[gK,List.mapM_cons,Option.bind_eq_bind,Option.bind_eq_some_iff,Option.pure_def,Option.some.injEq]at hol;obtain⟨o,ho,ol',hol',rfl⟩:=hol;have hdo:hZ rs o=true:=by
   have:=Array.all_eq_true.1 hdst i (Array.getElem?_eq_some_iff.1 ho).1;rw[(Array.getElem?_eq_some_iff.1 ho).2]at this;exact this
  have hgm9:∀ x∈m,∀ p,x.g=some p→p.1 < 99999:=fun x hx p hp=>Nat.lt_of_lt_of_le (hgm x hx p hp) hN
  have hS:Sat β0 h1 w:=gg hag (jm hgr hw)
  -- one operation is left out
  have skip:∀ {s m' c d0 b sl'},hU P N rs vs m (some (d0,b)) o=some (s,m',c)→d0 < N→mQ rs vs m m' (some (d0,b)) o=true→gOk (e d0) b=false→fC P N rs vs ops ol' m'=some sl'→je .any ops σ (listed.setIfInBounds i true)=true →
    (((σ.map (·.1)).zip sl').all fun p=>!p.1 || eY p.2.s)=true→ew P h1 ((σ.map (·.1)).zip sl') (e.set (mj vs o) undef) h K →
    gp r P .any ops (fw r N rs vs β0 h0 w0 (fl K (fun _ _ _=>False))) (Sat β0 h1) σ.length (listed.setIfInBounds i true) (a.put o.dst undef) w:=by
   intro s m' c d0 b sl' q1 q2 q3 q4 q5 q6 q7 q8;have hsn:=iq (o:=o) q3 hN hr hm q4 (jX q1 (fun x hx=>(hm.ok x hx).1));exact jU hN hsel hnd hdst σ _ ol' m' sl' β _ w _ h q6 hol' q5 q7 hsn.1 hsn.2 (fy q1 hgm (fun p hp=>by cases hp;exact q2)) hw hst hgr hag q8
  -- one that reads
  have take:∀ {s m' c g sl'},hU P N rs vs m g o=some (s,m',c)→(∀ p,g=some p→p.1 < N)→(g=none∨∃ d b,g=some (d,b)∧gOk (e d) b=true)→Region.wanted o (yielded ops a.tmps)=true→eY s=true→fC P N rs vs ops ol' m'=some sl' →
    (Region.ready .any ops listed).contains i=true→Region.free .any ops listed i=true→je .any ops σ (listed.setIfInBounds i true)=true→(((σ.map (·.1)).zip sl').all fun p=>!p.1 || eY p.2.s)=true →
    ly P c s e h1 (fun e=>ew P h1 ((σ.map (·.1)).zip sl') e h K)→gp r P .any ops (fw r N rs vs β0 h0 w0 (fl K (fun _ _ _=>False))) (Sat β0 h1) (σ.length+1) listed a w:=by
   intro s m' c g sl' q1 q2 q3 qw q4 q5 q6 q7 q8 q9 q10;have hC:∀ w,Sat β0 h1 w→Sat β h1 w:=fun w hs=>gg (fun s cs hm=>(hag s cs hm).symm) hs
   obtain⟨v,hv,e',z1,z2,z3⟩:=py (C:=Sat β0 h1) q1 hN (nr hgr hr) (fun _=>hC) q4 q10 hm hgm9 q3;refine iI hnd ho (Region.noSelect_spec hsel) (fun c a w hq=>by obtain⟨_,_,_,_,_,_,hf⟩:=hq;exact hf.elim) σ.length listed a w (Region.free_spec ho q7) (by simpa using q6) (.inl ⟨qw,hv⟩) hS ?_
   exact jU hN hsel hnd hdst σ _ ol' m' sl' β _ w e' h q8 hol' q5 q9 (np hgr hdo hr z1) z2 (fy q1 hgm q2) hw hst hgr hag z3
  -- one that has to come
  have force:∀ {s m' c g sl'},hU P N rs vs m g o=some (s,m',c)→(∀ p,g=some p→p.1 < N)→(g=none∨∃ d b,g=some (d,b)∧gOk (e d) b=true)→fC P N rs vs ops ol' m'=some sl' →
    je .any ops σ (listed.setIfInBounds i true)=true→(((σ.map (·.1)).zip sl').all fun p=>!p.1 || eY p.2.s)=true →
    opC P c s e h (fun e h=>ow h1 h∧ew P h1 ((σ.map (·.1)).zip sl') e h K)→o.wpIn (Fr r) 0 P a w (fun a' w'=>Sat β0 h1 w'∧gp r P .any ops (fw r N rs vs β0 h0 w0 (fl K (fun _ _ _=>False))) (Sat β0 h1) σ.length (listed.setIfInBounds i true) a' w') (fw r N rs vs β0 h0 w0 (fl K (fun _ _ _=>False))):=by
   intro s m' c g sl' q1 q2 q3 q5 q8 q9 q10;refine iu (lP (hnd i o ho) (jL (Q:=fw r N rs vs β0 h0 w0 (fl K (fun _ _ _=>False))) q1 hN hr hw q10 hm hgm9 q3)) ?_;rintro a' w' ⟨⟨β',e',h',r1,r2,r3,r4,r5,r6⟩,v,hv⟩;have hag':∀ s cs,Item.reg s cs∈h1.L→β' s=β0 s:=fun s cs hm=>by
    obtain⟨p1,p2,p3⟩:=hr.reg s cs (hgr.2.1.subset hm);obtain⟨n1,n2,n3⟩:=r1.reg s cs (r5.2.1.subset hm);rw[hv,rF (by simpa using p1.1) hdo,p3]at n3;injection n3 with n3
    injection n3 with n3
    injection n3 with n3
    rw[← n3];exact hag s cs hm
   exact⟨gg hag' (jm r5 r3),jU hN hsel hnd hdst σ _ ol' m' sl' β' a' w' e' h' q8 hol' q5 q9 r1 r2 (fy q1 hgm q2) r3 (hst.trans r4) r5 hag' r6⟩
  unfold fC at hs;split at hs
  ·rename_i hg;simp only[Option.bind_eq_some_iff,Option.map_eq_some_iff]at hs;obtain⟨⟨s,m',c⟩,q1,sl',q5,rfl⟩:=hs;have hw1:Region.wanted o (yielded ops a.tmps)=true:=by simp[Region.wanted,hg]
   simp only[List.map_cons,List.zip_cons_cons,List.all_cons,Bool.and_eq_true]at hfl;cases t with
   | true =>
    simp only[je,Bool.and_eq_true]at hB;simp only[List.map_cons,List.zip_cons_cons,ew]at hk;exact take q1 (fun p hp=>by cases hp) (.inl rfl) hw1 (by simpa using hfl.1) q5 hB.1.1 hB.1.2 hB.2 hfl.2 hk
   | false =>
    simp only[je,Bool.and_eq_true,decide_eq_true_eq]at hB;simp only[List.map_cons,List.zip_cons_cons,ew]at hk;refine⟨fun h0=>(by rw[hB.1]at h0;cases h0),fun j hj=>?_⟩;rw[hB.1]at hj;have hji:j=i:=by simpa using hj
    subst hji;unfold wpOpIn;simp only[ho,hw1,if_true];exact force q1 (fun p hp=>by cases hp) (.inl rfl) q5 hB.2 hfl.2 hk
  ·rename_i j0 b hg;simp only[Option.bind_eq_some_iff]at hs;obtain⟨d0,hd0,hs⟩:=hs;split at hs
   ·rename_i hdc;simp only[Option.bind_eq_some_iff]at hs;obtain⟨⟨s,m',c⟩,q1,hs⟩:=hs;split at hs
    ·rename_i hsk;simp only[Option.map_eq_some_iff]at hs;obtain⟨sl',q5,rfl⟩:=hs;have hwi:=gY hr (by simpa [Option.bind_eq_some_iff]using hd0) hdc.1 hdc.2 hg;simp only[List.map_cons,List.zip_cons_cons,List.all_cons,Bool.and_eq_true]at hfl;cases t with
     | true =>
      simp only[je,Bool.and_eq_true]at hB;simp only[List.map_cons,List.zip_cons_cons,ew]at hk;by_cases hgo:gOk (e d0) b=true
      ·rw[if_pos hgo]at hk;exact take q1 (fun p hp=>by cases hp;exact hdc.1) (.inr ⟨d0,b,rfl,hgo⟩) (by rw[hwi];exact hgo) (by simpa using hfl.1) q5 hB.1.1 hB.1.2 hB.2 hfl.2 hk
      ·rw[if_neg hgo]at hk;have hgf:gOk (e d0) b=false:=by simpa using hgo
       exact iI hnd ho (Region.noSelect_spec hsel) (fun c a w hq=>by obtain⟨_,_,_,_,_,_,hf⟩:=hq;exact hf.elim) σ.length listed a w (Region.free_spec ho hB.1.2) (by simpa using hB.1.1) (.inr ⟨by rw[hwi];exact hgf,rfl⟩) hS
        (skip q1 hdc.1 hsk hgf q5 hB.2 hfl.2 hk)
     | false =>
      simp only[je,Bool.and_eq_true,decide_eq_true_eq]at hB;simp only[List.map_cons,List.zip_cons_cons,ew]at hk;refine⟨fun h0=>(by rw[hB.1]at h0;cases h0),fun j hj=>?_⟩;rw[hB.1]at hj;have hji:j=i:=by simpa using hj
      subst hji;unfold wpOpIn;by_cases hgo:gOk (e d0) b=true
      ·rw[if_pos hgo]at hk;simp only[ho,hwi,hgo,if_true];exact force q1 (fun p hp=>by cases hp;exact hdc.1) (.inr ⟨d0,b,rfl,hgo⟩) q5 hB.2 hfl.2 hk
      ·rw[if_neg hgo]at hk;have hgf:gOk (e d0) b=false:=by simpa using hgo
       simp only[ho,hwi,hgf,Bool.false_eq_true,if_false];exact⟨fun _ _=>trivial,hS,skip q1 hdc.1 hsk hgf q5 hB.2 hfl.2 hk⟩
    ·cases hs
   ·cases hs
def hX(md:Region.Mode)(ops:Array Oper)(n:Nat):List (Bool × Nat)→Array Bool→Bool
 | [],listed=>Region.seqB md ops (ops.size - n) n listed
 | (true,i) :: l,listed=>decide (i < n) && (Region.ready md ops listed).contains i && Region.free md ops listed i && hX md ops n l (listed.setIfInBounds i true)
 | (false,i) :: l,listed=>decide (i < n) && decide (Region.ready md ops listed=[i]) && hX md ops n l (listed.setIfInBounds i true)
def kr(r:KI)(P:Program)(md:Region.Mode)(ops:Array Oper)(Q:Exit→Act→World→Prop)(S:World→Prop)(n:Nat)(L:Array Bool→Act→World→Prop):Nat→Array Bool→Act→World→Prop
 | 0,listed,a,w=>L listed a w
 | fuel+1,listed,a,w =>
  Region.ready md ops listed≠[]∧∀ i∈Region.ready md ops listed,i < n∧wpOpIn (Fr r) 0 P ops Q i (fun a' w'=>S w'∧kr r P md ops Q S n L fuel (listed.setIfInBounds i true) a' w') a w
theorem j9{md:Region.Mode}{ops:Array Oper}{Q:Exit→Act→World→Prop}{S:World→Prop}{n g:Nat}{L:Array Bool→Act→World→Prop}(hL:∀ listed a w,L listed a w→wpAnyIn (Fr r) 0 P md ops Q g listed a w):
  ∀ (f:Nat) (listed:Array Bool) (a:Act) (w:World),kr r P md ops Q S n L f listed a w→wpAnyIn (Fr r) 0 P md ops Q (f+g) listed a w
 | 0,listed,a,w,h=>by rw[Nat.zero_add];exact hL _ _ _ h
 | f+1,listed,a,w,h=>by
  rw[show f+1+g=(f+g)+1 by omega];exact⟨fun h0=>absurd h0 h.1,fun i hi=>wpOpIn_mono (fun a' w' h'=>j9 hL f _ a' w' h'.2) (h.2 i hi).2⟩
theorem l9{md:Region.Mode}{ops:Array Oper}{Q:Exit→Act→World→Prop}{S:World→Prop}{n i:Nat}{oi:Oper}{v:Value}{L:Array Bool→Act→World→Prop}(hd:∀ (j:Nat) (o:Oper),ops[j]?=some o→eZ o)(hi:ops[i]?=some oi)(hsel:∀ (j:Nat) (o:Oper) cs b,ops[j]?=some o→o.op≠.select cs b)
  (hQ:∀ c a w,Q (.panic c) (a.put oi.dst v) w→Q (.panic c) a w) (hs:Region.sinkB md ops n=true) (hc:Region.chainB md ops n=true) (hn:n < ops.size) (hin:i < n)
  (hdone:∀ listed a w,L listed a w→∀ j∈Region.ready md ops listed,n≤j) :
  ∀ (fuel:Nat) (listed:Array Bool) (a:Act) (w:World),HeadInv md ops n listed →
   (∀ j oj,ops[j]?=some oj→j≠i→listed.getD j true=false→(∀ e∈oj.after,Region.binds md e=true→e.on≠i)→oi.apart ops oj=true) →
   i∈Region.ready md ops listed→YieldsIf P ops S oi v a→S w →
   kr r P md ops Q S n L fuel (listed.setIfInBounds i true) (a.put oi.dst v) w→kr r P md ops Q S n L (fuel+1) listed a w:=by
 intro fuel
 induction fuel with
 | zero =>
  intro listed a w inv _ hr hy hS H;have hun:=(mem_ready.1 hr).1;refine⟨fun h=>(by rw[h]at hr;cases hr),fun j hj=>?_⟩;have hjn:j < n:=by
   rcases Nat.lt_or_ge j n with h | h
   ·exact h
   ·exact absurd hj (tail_waits hs hc hn inv _ i rfl hin hun j h)
  refine⟨hjn,?_⟩;by_cases hji:j=i
  ·subst hji;exact iR (hd _ _ hi) hi hy hS ⟨hS,H⟩
  ·have:=hdone _ _ _ H j (ready_mono hj hji);omega
 | succ fuel ih =>
  intro listed a w inv hfree hr hy hS H;have hun:=(mem_ready.1 hr).1;refine⟨fun h=>(by rw[h]at hr;cases hr),fun j hj=>?_⟩;have hjn:j < n:=by
   rcases Nat.lt_or_ge j n with h | h
   ·exact h
   ·exact absurd hj (tail_waits hs hc hn inv _ i rfl hin hun j h)
  refine⟨hjn,?_⟩;by_cases hji:j=i
  ·subst hji;exact iR (hd _ _ hi) hi hy hS ⟨hS,H⟩
  ·have h1:=(H.2 j (ready_mono hj hji)).2;obtain⟨hjun,oj,hoj,hall⟩:=mem_ready.1 hj;have hnot:∀ e∈oj.after,Region.binds md e=true→e.on≠i:=fun e he hb heq=>by
    have h1:=hall e he hb;rw[heq,getD_both hun]at h1;cases h1
   have h2:=ki (hd _ _ hoj) hoj (hfree j oj hoj hji hjun hnot) (fun cs b=>hsel i oi cs b hi) (fun cs b=>hsel j oj cs b hoj) hQ hy h1;have hfree':∀ k ok,ops[k]?=some ok→k≠i→(listed.setIfInBounds j true).getD k true=false →
     (∀ e∈ok.after,Region.binds md e=true→e.on≠i)→oi.apart ops ok=true:=fun k ok hk hki hun hno=>by
    refine hfree k ok hk hki ?_ hno;by_cases hjk:j=k
    ·subst hjk;exact hjun
    ·rw[getD_set_ne true hjk]at hun;exact hun
   refine wpOpIn_mono (fun a' w' h3=>⟨h3.2.1,ih (listed.setIfInBounds j true) a' w' (inv.set hj hjn) hfree' (ready_mono hr (Ne.symm hji)) h3.1 h3.2.1 ?_⟩) h2;rw[Array.setIfInBounds_comm _ _ hji];exact h3.2.2
theorem jl{ops:Array Oper}{n:Nat}(hN:N≤99999)(hsel:Region.noSelect ops=true)(hnd:∀ (j:Nat) (o:Oper),ops[j]?=some o→eZ o)(hdst:ops.all (hZ rs)=true)(hsk:Region.sinkB .any ops n=true)(hch:Region.chainB .any ops n=true)(hn:n < ops.size){β0:Nat→Nat}{h0 h1:H}{w0:World}:
  ∀ (σ:List (Bool × Nat)) (listed:Array Bool) (ol:List Oper) (m:List ME) (sl:Ku) (β:Nat→Nat) (a:Act) (w:World) (e:Env) (h:H),hX .any ops n σ listed=true→HeadInv .any ops n listed→gK ops σ=some ol→fC P N rs vs ops (ol++ops.toList.drop n) m=some sl →
  (((σ.map (·.1)).zip sl).all fun p=>!p.1 || eY p.2.s)=true→Rel r N rs vs β a e h→MapOk N rs vs β a e m→GM N m→Sat β h w→Step β0 h0 w0 β h w→ow h1 h→(∀ s cs,Item.reg s cs∈h1.L→β s=β0 s)→ew P h1 ((σ.map (·.1)).zip sl) e h (fun e h=>eb P (sl.drop σ.length) e h K) →
  kr r P .any ops (fw r N rs vs β0 h0 w0 (fl K (fun _ _ _=>False))) (Sat β0 h1) n (fun listed' a' w'=>Region.seqB .any ops (ops.size - n) n listed'=true∧wpOpsIn (Fr r) 0 P ops (fw r N rs vs β0 h0 w0 (fl K (fun _ _ _=>False))) (List.range' n (ops.size - n)) a' w') σ.length listed a w
 | [],listed,ol,m,sl,β,a,w,e,h,hB,hinv,hol,hs,_,hr,hm,hgm,hw,hst,_,_,hk=>by
  simp only[List.map_nil,List.zip_nil_left,ew,List.length_nil,List.drop_zero]at hk;simp only[gK,List.mapM_nil,Option.pure_def,Option.some.injEq]at hol;subst hol;refine⟨by simpa [hX]using hB,?_⟩;have hso:=kv (P:=P) (Q:=fun _ _ _=>False) (all:=ops) (K:=K) hN (ops.toList.drop n) n m sl β a w e h (fun j=>by simp[List.getElem?_drop]) (by simpa using hs) hr hm hgm hw hst hk
  have hlen:(ops.toList.drop n).length=ops.size - n:=by simp
  rw[hlen]at hso;exact hso
 | (t,i) :: σ,listed,ol,m,sl,β,a,w,e,h,hB,hinv,hol,hs,hfl,hr,hm,hgm,hw,hst,hgr,hag,hk=>by
  simp only[gK,List.mapM_cons,Option.bind_eq_bind,Option.bind_eq_some_iff,Option.pure_def,Option.some.injEq]at hol;obtain⟨o,ho,ol',hol',rfl⟩:=hol;have hdo:hZ rs o=true:=by
   have:=Array.all_eq_true.1 hdst i (Array.getElem?_eq_some_iff.1 ho).1;rw[(Array.getElem?_eq_some_iff.1 ho).2]at this;exact this
  have hgm9:∀ x∈m,∀ p,x.g=some p→p.1 < 99999:=fun x hx p hp=>Nat.lt_of_lt_of_le (hgm x hx p hp) hN
  have hS:Sat β0 h1 w:=gg hag (jm hgr hw)
  -- one operation is left out
  have skip:∀ {s m' c d0 b sl'},hU P N rs vs m (some (d0,b)) o=some (s,m',c)→d0 < N→mQ rs vs m m' (some (d0,b)) o=true→gOk (e d0) b=false→fC P N rs vs ops (ol'++ops.toList.drop n) m'=some sl'→hX .any ops n σ (listed.setIfInBounds i true)=true →
    (((σ.map (·.1)).zip sl').all fun p=>!p.1 || eY p.2.s)=true→HeadInv .any ops n (listed.setIfInBounds i true)→ew P h1 ((σ.map (·.1)).zip sl') (e.set (mj vs o) undef) h (fun e h=>eb P (sl'.drop σ.length) e h K) →
    kr r P .any ops (fw r N rs vs β0 h0 w0 (fl K (fun _ _ _=>False))) (Sat β0 h1) n (fun listed' a' w'=>Region.seqB .any ops (ops.size - n) n listed'=true∧wpOpsIn (Fr r) 0 P ops (fw r N rs vs β0 h0 w0 (fl K (fun _ _ _=>False))) (List.range' n (ops.size - n)) a' w') σ.length (listed.setIfInBounds i true) (a.put o.dst undef) w:=by
   intro s m' c d0 b sl' q1 q2 q3 q4 q5 q6 q7 qi q8;have hsn:=iq (o:=o) q3 hN hr hm q4 (jX q1 (fun x hx=>(hm.ok x hx).1));exact jl hN hsel hnd hdst hsk hch hn σ _ ol' m' sl' β _ w _ h q6 qi hol' q5 q7 hsn.1 hsn.2 (fy q1 hgm (fun p hp=>by cases hp;exact q2)) hw hst hgr hag q8
  -- one that reads
  have take:∀ {s m' c g sl'},hU P N rs vs m g o=some (s,m',c)→(∀ p,g=some p→p.1 < N)→(g=none∨∃ d b,g=some (d,b)∧gOk (e d) b=true)→Region.wanted o (yielded ops a.tmps)=true→eY s=true→fC P N rs vs ops (ol'++ops.toList.drop n) m'=some sl' →
    (Region.ready .any ops listed).contains i=true→Region.free .any ops listed i=true→hX .any ops n σ (listed.setIfInBounds i true)=true→(((σ.map (·.1)).zip sl').all fun p=>!p.1 || eY p.2.s)=true →
    ly P c s e h1 (fun e=>ew P h1 ((σ.map (·.1)).zip sl') e h (fun e h=>eb P (sl'.drop σ.length) e h K))→i < n→HeadInv .any ops n (listed.setIfInBounds i true)→kr r P .any ops (fw r N rs vs β0 h0 w0 (fl K (fun _ _ _=>False))) (Sat β0 h1) n (fun listed' a' w'=>Region.seqB .any ops (ops.size - n) n listed'=true∧wpOpsIn (Fr r) 0 P ops (fw r N rs vs β0 h0 w0 (fl K (fun _ _ _=>False))) (List.range' n (ops.size - n)) a' w') (σ.length+1) listed a w:=by
   intro s m' c g sl' q1 q2 q3 qw q4 q5 q6 q7 q8 q9 q10 qn qi;have hC:∀ w,Sat β0 h1 w→Sat β h1 w:=fun w hs=>gg (fun s cs hm=>(hag s cs hm).symm) hs
   obtain⟨v,hv,e',z1,z2,z3⟩:=py (C:=Sat β0 h1) q1 hN (nr hgr hr) (fun _=>hC) q4 q10 hm hgm9 q3;refine l9 hnd ho (Region.noSelect_spec hsel) (fun c a w hq=>by obtain⟨_,_,_,_,_,_,hf⟩:=hq;exact hf.elim) hsk hch hn qn (fun listed a w hL=>seqB_ready hL.1) σ.length listed a w hinv (Region.free_spec ho q7) (by simpa using q6) (.inl ⟨qw,hv⟩) hS ?_
   exact jl hN hsel hnd hdst hsk hch hn σ _ ol' m' sl' β _ w e' h q8 qi hol' q5 q9 (np hgr hdo hr z1) z2 (fy q1 hgm q2) hw hst hgr hag z3
  -- one that has to come
  have force:∀ {s m' c g sl'},hU P N rs vs m g o=some (s,m',c)→(∀ p,g=some p→p.1 < N)→(g=none∨∃ d b,g=some (d,b)∧gOk (e d) b=true)→fC P N rs vs ops (ol'++ops.toList.drop n) m'=some sl' →
    hX .any ops n σ (listed.setIfInBounds i true)=true→(((σ.map (·.1)).zip sl').all fun p=>!p.1 || eY p.2.s)=true →
    opC P c s e h (fun e h=>ow h1 h∧ew P h1 ((σ.map (·.1)).zip sl') e h (fun e h=>eb P (sl'.drop σ.length) e h K))→HeadInv .any ops n (listed.setIfInBounds i true)→o.wpIn (Fr r) 0 P a w (fun a' w'=>Sat β0 h1 w'∧kr r P .any ops (fw r N rs vs β0 h0 w0 (fl K (fun _ _ _=>False))) (Sat β0 h1) n (fun listed' a' w'=>Region.seqB .any ops (ops.size - n) n listed'=true∧wpOpsIn (Fr r) 0 P ops (fw r N rs vs β0 h0 w0 (fl K (fun _ _ _=>False))) (List.range' n (ops.size - n)) a' w') σ.length (listed.setIfInBounds i true) a' w') (fw r N rs vs β0 h0 w0 (fl K (fun _ _ _=>False))):=by
   intro s m' c g sl' q1 q2 q3 q5 q8 q9 q10 qi;refine iu (lP (hnd i o ho) (jL (Q:=fw r N rs vs β0 h0 w0 (fl K (fun _ _ _=>False))) q1 hN hr hw q10 hm hgm9 q3)) ?_;rintro a' w' ⟨⟨β',e',h',r1,r2,r3,r4,r5,r6⟩,v,hv⟩;have hag':∀ s cs,Item.reg s cs∈h1.L→β' s=β0 s:=fun s cs hm=>by
    obtain⟨p1,p2,p3⟩:=hr.reg s cs (hgr.2.1.subset hm);obtain⟨n1,n2,n3⟩:=r1.reg s cs (r5.2.1.subset hm);rw[hv,rF (by simpa using p1.1) hdo,p3]at n3;injection n3 with n3
    injection n3 with n3
    injection n3 with n3
    rw[← n3];exact hag s cs hm
   exact⟨gg hag' (jm r5 r3),jl hN hsel hnd hdst hsk hch hn σ _ ol' m' sl' β' a' w' e' h' q8 qi hol' q5 q9 r1 r2 (fy q1 hgm q2) r3 (hst.trans r4) r5 hag' r6⟩
  rw[List.cons_append]at hs;unfold fC at hs;split at hs
  ·rename_i hg;simp only[Option.bind_eq_some_iff,Option.map_eq_some_iff]at hs;obtain⟨⟨s,m',c⟩,q1,sl',q5,rfl⟩:=hs;have hw1:Region.wanted o (yielded ops a.tmps)=true:=by simp[Region.wanted,hg]
   simp only[List.map_cons,List.zip_cons_cons,List.all_cons,Bool.and_eq_true]at hfl;cases t with
   | true =>
    simp only[hX,Bool.and_eq_true,decide_eq_true_eq]at hB;simp only[List.map_cons,List.zip_cons_cons,List.length_cons,List.drop_succ_cons,ew]at hk;exact take q1 (fun p hp=>by cases hp) (.inl rfl) hw1 (by simpa using hfl.1) q5 hB.1.1.2 hB.1.2 hB.2 hfl.2 hk hB.1.1.1 (hinv.set (by simpa using hB.1.1.2) hB.1.1.1)
   | false =>
    simp only[hX,Bool.and_eq_true,decide_eq_true_eq]at hB;simp only[List.map_cons,List.zip_cons_cons,List.length_cons,List.drop_succ_cons,ew]at hk;refine⟨fun h0=>(by rw[hB.1.2]at h0;cases h0),fun j hj=>?_⟩;rw[hB.1.2]at hj;have hji:j=i:=by simpa using hj
    subst hji;have hri:j∈Region.ready .any ops listed:=by rw[hB.1.2];simp
    refine⟨hB.1.1,?_⟩;unfold wpOpIn;simp only[ho,hw1,if_true];exact force q1 (fun p hp=>by cases hp) (.inl rfl) q5 hB.2 hfl.2 hk (hinv.set hri hB.1.1)
  ·rename_i j0 b hg;simp only[Option.bind_eq_some_iff]at hs;obtain⟨d0,hd0,hs⟩:=hs;split at hs
   ·rename_i hdc;simp only[Option.bind_eq_some_iff]at hs;obtain⟨⟨s,m',c⟩,q1,hs⟩:=hs;split at hs
    ·rename_i hsk';simp only[Option.map_eq_some_iff]at hs;obtain⟨sl',q5,rfl⟩:=hs;have hwi:=gY hr (by simpa [Option.bind_eq_some_iff]using hd0) hdc.1 hdc.2 hg;simp only[List.map_cons,List.zip_cons_cons,List.all_cons,Bool.and_eq_true]at hfl;cases t with
     | true =>
      simp only[hX,Bool.and_eq_true,decide_eq_true_eq]at hB;simp only[List.map_cons,List.zip_cons_cons,List.length_cons,List.drop_succ_cons,ew]at hk;by_cases hgo:gOk (e d0) b=true
      ·rw[if_pos hgo]at hk;exact take q1 (fun p hp=>by cases hp;exact hdc.1) (.inr ⟨d0,b,rfl,hgo⟩) (by rw[hwi];exact hgo) (by simpa using hfl.1) q5 hB.1.1.2 hB.1.2 hB.2 hfl.2 hk hB.1.1.1 (hinv.set (by simpa using hB.1.1.2) hB.1.1.1)
      ·rw[if_neg hgo]at hk;have hgf:gOk (e d0) b=false:=by simpa using hgo
       exact l9 hnd ho (Region.noSelect_spec hsel) (fun c a w hq=>by obtain⟨_,_,_,_,_,_,hf⟩:=hq;exact hf.elim) hsk hch hn hB.1.1.1 (fun listed a w hL=>seqB_ready hL.1) σ.length listed a w hinv (Region.free_spec ho hB.1.2) (by simpa using hB.1.1.2) (.inr ⟨by rw[hwi];exact hgf,rfl⟩) hS
        (skip q1 hdc.1 hsk' hgf q5 hB.2 hfl.2 (hinv.set (by simpa using hB.1.1.2) hB.1.1.1) hk)
     | false =>
      simp only[hX,Bool.and_eq_true,decide_eq_true_eq]at hB;simp only[List.map_cons,List.zip_cons_cons,List.length_cons,List.drop_succ_cons,ew]at hk;refine⟨fun h0=>(by rw[hB.1.2]at h0;cases h0),fun j hj=>?_⟩;rw[hB.1.2]at hj;have hji:j=i:=by simpa using hj
      subst hji;have hri:j∈Region.ready .any ops listed:=by rw[hB.1.2];simp
      refine⟨hB.1.1,?_⟩;unfold wpOpIn;by_cases hgo:gOk (e d0) b=true
      ·rw[if_pos hgo]at hk;simp only[ho,hwi,hgo,if_true];exact force q1 (fun p hp=>by cases hp;exact hdc.1) (.inr ⟨d0,b,rfl,hgo⟩) q5 hB.2 hfl.2 hk (hinv.set hri hB.1.1)
      ·rw[if_neg hgo]at hk;have hgf:gOk (e d0) b=false:=by simpa using hgo
       simp only[ho,hwi,hgf,Bool.false_eq_true,if_false];exact⟨fun _ _=>trivial,hS,skip q1 hdc.1 hsk' hgf q5 hB.2 hfl.2 (hinv.set hri hB.1.1) hk⟩
    ·cases hs
   ·cases hs
theorem sj{Q:Exit→KH}{e:Env}{h:H}{id:Nat}{ops:Array Oper}{ol:List Oper}{sl:Ku}(σ:List (Bool × Nat))(L1:Kw)(hL:L1.Sublist h.L)(hmix:P.follows .mixedOrders=true)(hsel:Region.noSelect ops=true)(hnd:fY ops=true)(hdst:ops.all (hZ rs)=true)
  (hB:je .any ops σ (Array.replicate ops.size false)=true) (hlen:σ.length=ops.size) (hol:gK ops σ=some ol) (hN:N≤99999) (hs:fC P N rs vs ops ol []=some sl) (hfl:(((σ.map (·.1)).zip sl).all fun p=>!p.1 || eY p.2.s)=true)
  (hk:ew P ⟨h.G,L1,h.D⟩ ((σ.map (·.1)).zip sl) e h fun e h=>Q .normal e h):wpH r P N rs vs (.region id ops true) Q e h:=by
 intro β a w hr hw;refine wpIn_mono (Q:=fw r N rs vs β h w (fl (fun e h=>Q .normal e h) (fun _ _ _=>False))) (wpIn_region_any hmix ?_) (fun x a w ⟨β',e',h',q1,q2,q3,q4⟩=>⟨β',e',h',q1,q2,q3,by cases x <;> first | exact q4 | exact q4.elim⟩)
 rw[← hlen];refine iZ (S:=Sat β ⟨h.G,L1,h.D⟩) _ _ _ _ ?_;refine jU hN hsel (g9 hnd) hdst σ _ ol [] sl β a _ e h ?_ hol hs hfl hr ⟨fun x hx=>by cases hx⟩ (fun x hx=>by cases hx) ⟨hw.g,hw.l,hw.nd,hw.df,hw.d⟩ ⟨rfl,rfl,rfl,Nat.le_refl _,fun _ _ _=>rfl,KO,fun _ h h'=>absurd h h',fun _ h=>.inl h,[],rfl,by simp⟩ ⟨KO,hL,rfl⟩ (fun _ _ _=>rfl) hk;rw[hlen];exact hB
theorem sb{Q:Exit→KH}{e:Env}{h:H}{id:Nat}{ops:Array Oper}{ol:List Oper}{sl:Ku}(n:Nat)(σ:List (Bool × Nat))(L1:Kw)(hL:L1.Sublist h.L)(hmix:P.follows .mixedOrders=true)(hsel:Region.noSelect ops=true)(hnd:fY ops=true)(hdst:ops.all (hZ rs)=true)
  (hsk:Region.sinkB .any ops n=true) (hch:Region.chainB .any ops n=true) (hn:n < ops.size)
  (hB:hX .any ops n σ (Array.replicate ops.size false)=true) (hlen:σ.length=n) (hol:gK ops σ=some ol) (hN:N≤99999) (hs:fC P N rs vs ops (ol++ops.toList.drop n) []=some sl) (hfl:(((σ.map (·.1)).zip sl).all fun p=>!p.1 || eY p.2.s)=true)
  (hk:ew P ⟨h.G,L1,h.D⟩ ((σ.map (·.1)).zip sl) e h fun e h=>eb P (sl.drop n) e h fun e h=>Q .normal e h):wpH r P N rs vs (.region id ops true) Q e h:=by
 intro β a w hr hw;refine wpIn_mono (Q:=fw r N rs vs β h w (fl (fun e h=>Q .normal e h) (fun _ _ _=>False))) (wpIn_region_any hmix ?_) (fun x a w ⟨β',e',h',q1,q2,q3,q4⟩=>⟨β',e',h',q1,q2,q3,by cases x <;> first | exact q4 | exact q4.elim⟩)
 have inv0:HeadInv .any ops n (Array.replicate ops.size false) :=
  ⟨by simp,fun j oj _ hl=>(by rw[getD_replicate_false]at hl;cases hl),fun t _ ht=>getD_in (by simpa using ht) (getD_replicate_false _ _)⟩
 have H:=jl (r:=r) (K:=fun e h=>Q .normal e h) hN hsel (g9 hnd) hdst hsk hch hn (β0:=β) (h0:=h) (h1:=⟨h.G,L1,h.D⟩) (w0:=w) σ _ ol [] sl β a { w with drawn:=w.drawn+1 } e h hB inv0 hol hs hfl hr ⟨fun x hx=>by cases hx⟩ (fun x hx=>by cases hx) ⟨hw.g,hw.l,hw.nd,hw.df,hw.d⟩ ⟨rfl,rfl,rfl,Nat.le_refl _,fun _ _ _=>rfl,KO,fun _ h h'=>absurd h h',fun _ h=>.inl h,[],rfl,by simp⟩ ⟨KO,hL,rfl⟩ (fun _ _ _=>rfl) (by rw[hlen];exact hk)
 have:=j9 (g:=ops.size - n) (fun listed a' w' ⟨hseq,hops⟩=>js _ _ _ _ _ hseq hops) _ _ _ _ H;rw[hlen,show n+(ops.size - n)=ops.size by omega]at this;exact this
def r9(ops:Array Oper)(tk:Nat→Bool):Nat→Array Bool→List (Bool × Nat)→List (Bool × Nat)
 | 0,_,acc=>acc.reverse
 | f+1,listed,acc =>
  match Region.ready .any ops listed with
  | []=>acc.reverse
  | i :: is =>
   match (i :: is).find? fun j=>tk j && Region.free .any ops listed j with
   | some j=>r9 ops tk f (listed.setIfInBounds j true) ((true,j) :: acc)
   | none=>r9 ops tk f (listed.setIfInBounds i true) ((false,i) :: acc)
end sched
end Go.Kx
namespace Go.Kx
open Go Go.RowKit
open List (getElem?_eq_getElem mem_of_getElem? length_append append_nil take_length)
def rR(P:Program)(N:Nat)(rs vs:KF)(all:Array Oper)(o:Oper)(m:List ME):Option (SI × List ME) :=
 match o.guard with
 | none=>(hU P N rs vs m none o).map fun x=>(⟨none,x.1,x.2.2,0⟩,x.2.1)
 | some (j,b)=>((all[j]?).bind (·.dst)).bind fun d=>if d < N∧vs.contains d=false then
   (hU P N rs vs m (some (d,b)) o).bind fun x=>if mQ rs vs m x.2.1 (some (d,b)) o=true then some (⟨some (d,b),x.1,x.2.2,mj vs o⟩,x.2.1)else none else none
def uD{α:Type}(P:Program)(N:Nat)(rs vs:KF)(all:Array Oper)(T:List ME→Option α):List (Bool × Nat)→List ME→Option (List (Bool × SI) × α)
 | [],m=>(T m).map fun x=>([],x)
 | (t,i) :: σ,m=>(all[i]?).bind fun o=>(rR P N rs vs all o m).bind fun x=>if (!t || eY x.1.s)=true then(uD P N rs vs all T σ x.2).map fun y=>((t,x.1) :: y.1,y.2)else none
def lv(md:Region.Mode)(ops:Array Oper)(B:Array Bool→Bool):List (Bool × Nat)→Array Bool→Bool
 | [],listed=>B listed
 | (true,i) :: l,listed=>(Region.ready md ops listed).contains i && Region.free md ops listed i && lv md ops B l (listed.setIfInBounds i true)
 | (false,i) :: l,listed=>decide (Region.ready md ops listed=[i]) && lv md ops B l (listed.setIfInBounds i true)
theorem rm{P:Program}{h1:H}{t:Bool}{x:SI}{l:List (Bool × SI)}{e:Env}{h:H}{K:KH}:ew P h1 ((t,x) :: l) e h K=ew P h1 [(t,x)] e h fun e h=>ew P h1 l e h K:=by
 obtain⟨g,s,c,k⟩:=x;cases t <;> cases g with
 | none=>rfl
 | some p=>obtain⟨d,b⟩:=p;rfl
section fork
variable {r:KI} {P:Program} {N:Nat} {rs vs:KF} {K:KH}
structure Way (r:KI) (N:Nat) (rs vs:KF) (β0:Nat→Nat) (h0 h1:H) (w0:World) (m:List ME) (β:Nat→Nat) (a:Act) (w:World) (e:Env) (h:H):Prop where
 rel:Rel r N rs vs β a e h
 map:MapOk N rs vs β a e m
 gm:GM N m
 sat:Sat β h w
 step:Step β0 h0 w0 β h w
 grow:ow h1 h
 ag:∀ s cs,Item.reg s cs∈h1.L→β s=β0 s
variable {ops:Array Oper} {β0:Nat→Nat} {h0 h1:H} {w0:World} {m:List ME} {β:Nat→Nat} {a:Act} {w:World} {e:Env} {h:H} {n:Nat} {listed:Array Bool} {o:Oper} {i:Nat} {x:SI} {m':List ME} {KK:KH}
theorem sc(hw:Way r N rs vs β0 h0 h1 w0 m β a w e h):Sat β0 h1 w:=gg hw.ag (jm hw.grow hw.sat)
theorem ua(hN:N≤99999){s:SOp}{c:KI}{d0:Nat}{b:Bool}(hw:Way r N rs vs β0 h0 h1 w0 m β a w e h)(q1:hU P N rs vs m (some (d0,b)) o=some (s,m',c))(q2:d0 < N)(q3:mQ rs vs m m' (some (d0,b)) o=true)(q4:gOk (e d0) b=false):
  Way r N rs vs β0 h0 h1 w0 m' β (a.put o.dst undef) w (e.set (mj vs o) undef) h:=by
 have hsn:=iq (o:=o) q3 hN hw.rel hw.map q4 (jX q1 (fun x hx=>(hw.map.ok x hx).1));exact⟨hsn.1,hsn.2,fy q1 hw.gm (fun p hp=>by cases hp;exact q2),hw.sat,hw.step,hw.grow,hw.ag⟩
theorem AF(hN:N≤99999)(hsel:Region.noSelect ops=true)(hnd:∀ (j:Nat) (o:Oper),ops[j]?=some o→eZ o)(hdst:ops.all (hZ rs)=true)(ho:ops[i]?=some o)(hw:Way r N rs vs β0 h0 h1 w0 m β a w e h)(hs:rR P N rs vs ops o m=some (x,m'))(hq:eY x.s=true)
  (hri:(Region.ready .any ops listed).contains i=true) (hfr:Region.free .any ops listed i=true) (hk:ew P h1 [(true,x)] e h KK)
  (hn:∀ β a w e h,Way r N rs vs β0 h0 h1 w0 m' β a w e h→KK e h→gp r P .any ops (fw r N rs vs β0 h0 w0 (fl K (fun _ _ _=>False))) (Sat β0 h1) n (listed.setIfInBounds i true) a w) :
  gp r P .any ops (fw r N rs vs β0 h0 w0 (fl K (fun _ _ _=>False))) (Sat β0 h1) (n+1) listed a w:=by
 have hdo:hZ rs o=true:=by
  have:=Array.all_eq_true.1 hdst i (Array.getElem?_eq_some_iff.1 ho).1;rw[(Array.getElem?_eq_some_iff.1 ho).2]at this;exact this
 have hgm9:∀ x∈m,∀ p,x.g=some p→p.1 < 99999:=fun x hx p hp=>Nat.lt_of_lt_of_le (hw.gm x hx p hp) hN
 have hQ:∀ c a w,fw r N rs vs β0 h0 w0 (fl K (fun _ _ _=>False)) (.panic c) a w→∀ a',fw r N rs vs β0 h0 w0 (fl K (fun _ _ _=>False)) (.panic c) a' w:=fun c a w hq=>by obtain⟨_,_,_,_,_,_,hf⟩:=hq;exact hf.elim
 have take:∀ {s c g},hU P N rs vs m g o=some (s,m',c)→(∀ p,g=some p→p.1 < N)→(g=none∨∃ d b,g=some (d,b)∧gOk (e d) b=true)→Region.wanted o (yielded ops a.tmps)=true→eY s=true→ly P c s e h1 (fun e=>KK e h) →
   gp r P .any ops (fw r N rs vs β0 h0 w0 (fl K (fun _ _ _=>False))) (Sat β0 h1) (n+1) listed a w:=by
  intro s c g q1 q2 q3 qw q4 q10;have hC:∀ w,Sat β0 h1 w→Sat β h1 w:=fun w hs=>gg (fun s cs hm=>(hw.ag s cs hm).symm) hs
  obtain⟨v,hv,e',z1,z2,z3⟩:=py (C:=Sat β0 h1) q1 hN (nr hw.grow hw.rel) (fun _=>hC) q4 q10 hw.map hgm9 q3;refine iI hnd ho (Region.noSelect_spec hsel) (fun c a w hq=>hQ c _ w hq _) n listed a w (Region.free_spec ho hfr) (by simpa using hri) (.inl ⟨qw,hv⟩) (sc hw) ?_;exact hn β _ w e' h ⟨np hw.grow hdo hw.rel z1,z2,fy q1 hw.gm q2,hw.sat,hw.step,hw.grow,hw.ag⟩ z3
 unfold rR at hs;split at hs
 ·rename_i hg;simp only[Option.map_eq_some_iff,Prod.mk.injEq]at hs;obtain⟨⟨s,m'',c⟩,q1,rfl,rfl⟩:=hs;have hw1:Region.wanted o (yielded ops a.tmps)=true:=by simp[Region.wanted,hg]
  exact take q1 (fun p hp=>by cases hp) (.inl rfl) hw1 hq hk
 ·rename_i j0 b hg;simp only[Option.bind_eq_some_iff]at hs;obtain⟨d0,hd0,hs⟩:=hs;split at hs
  ·rename_i hdc;simp only[Option.bind_eq_some_iff]at hs;obtain⟨⟨s,m'',c⟩,q1,hs⟩:=hs;split at hs
   ·rename_i hsk;simp only[Option.some.injEq,Prod.mk.injEq]at hs;obtain⟨rfl,rfl⟩:=hs;have hwi:=gY hw.rel (by simpa [Option.bind_eq_some_iff]using hd0) hdc.1 hdc.2 hg;by_cases hgo:gOk (e d0) b=true
    ·exact take q1 (fun p hp=>by cases hp;exact hdc.1) (.inr ⟨d0,b,rfl,hgo⟩) (by rw[hwi];exact hgo) hq (by simp only[ew]at hk;rw[if_pos hgo]at hk;exact hk)
    ·have hgf:gOk (e d0) b=false:=by simpa using hgo
     exact iI hnd ho (Region.noSelect_spec hsel) (fun c a w hq=>hQ c _ w hq _) n listed a w (Region.free_spec ho hfr) (by simpa using hri) (.inr ⟨by rw[hwi];exact hgf,rfl⟩) (sc hw)
      (hn β _ w _ h (ua hN hw q1 hdc.1 hsk hgf) (by simp only[ew]at hk;rw[if_neg hgo]at hk;exact hk))
   ·cases hs
  ·cases hs
theorem nK(hN:N≤99999)(hnd:∀ (j:Nat) (o:Oper),ops[j]?=some o→eZ o)(hdst:ops.all (hZ rs)=true)(ho:ops[i]?=some o)(hw:Way r N rs vs β0 h0 h1 w0 m β a w e h)(hs:rR P N rs vs ops o m=some (x,m'))
  (hk:ew P h1 [(false,x)] e h KK)
  (hn:∀ β a w e h,Way r N rs vs β0 h0 h1 w0 m' β a w e h→KK e h→gp r P .any ops (fw r N rs vs β0 h0 w0 (fl K (fun _ _ _=>False))) (Sat β0 h1) n (listed.setIfInBounds i true) a w) :
  wpOpIn (Fr r) 0 P ops (fw r N rs vs β0 h0 w0 (fl K (fun _ _ _=>False))) i (fun a' w'=>Sat β0 h1 w'∧gp r P .any ops (fw r N rs vs β0 h0 w0 (fl K (fun _ _ _=>False))) (Sat β0 h1) n (listed.setIfInBounds i true) a' w') a w:=by
 have hdo:hZ rs o=true:=by
  have:=Array.all_eq_true.1 hdst i (Array.getElem?_eq_some_iff.1 ho).1;rw[(Array.getElem?_eq_some_iff.1 ho).2]at this;exact this
 have hgm9:∀ x∈m,∀ p,x.g=some p→p.1 < 99999:=fun x hx p hp=>Nat.lt_of_lt_of_le (hw.gm x hx p hp) hN
 have force:∀ {s c g},hU P N rs vs m g o=some (s,m',c)→(∀ p,g=some p→p.1 < N)→(g=none∨∃ d b,g=some (d,b)∧gOk (e d) b=true)→opC P c s e h (fun e h=>ow h1 h∧KK e h) →
   o.wpIn (Fr r) 0 P a w (fun a' w'=>Sat β0 h1 w'∧gp r P .any ops (fw r N rs vs β0 h0 w0 (fl K (fun _ _ _=>False))) (Sat β0 h1) n (listed.setIfInBounds i true) a' w') (fw r N rs vs β0 h0 w0 (fl K (fun _ _ _=>False))):=by
  intro s c g q1 q2 q3 q10;refine iu (lP (hnd i o ho) (jL (Q:=fw r N rs vs β0 h0 w0 (fl K (fun _ _ _=>False))) q1 hN hw.rel hw.sat q10 hw.map hgm9 q3)) ?_;rintro a' w' ⟨⟨β',e',h',r1,r2,r3,r4,r5,r6⟩,v,hv⟩;have hag':∀ s cs,Item.reg s cs∈h1.L→β' s=β0 s:=fun s cs hm=>by
   obtain⟨p1,p2,p3⟩:=hw.rel.reg s cs (hw.grow.2.1.subset hm);obtain⟨n1,n2,n3⟩:=r1.reg s cs (r5.2.1.subset hm);rw[hv,rF (by simpa using p1.1) hdo,p3]at n3;injection n3 with n3
   injection n3 with n3
   injection n3 with n3
   rw[← n3];exact hw.ag s cs hm
  exact⟨gg hag' (jm r5 r3),hn β' a' w' e' h' ⟨r1,r2,fy q1 hw.gm q2,r3,hw.step.trans r4,r5,hag'⟩ r6⟩
 unfold rR at hs;unfold wpOpIn;split at hs
 ·rename_i hg;simp only[Option.map_eq_some_iff,Prod.mk.injEq]at hs;obtain⟨⟨s,m'',c⟩,q1,rfl,rfl⟩:=hs;have hw1:Region.wanted o (yielded ops a.tmps)=true:=by simp[Region.wanted,hg]
  simp only[ho,hw1,if_true];exact force q1 (fun p hp=>by cases hp) (.inl rfl) hk
 ·rename_i j0 b hg;simp only[Option.bind_eq_some_iff]at hs;obtain⟨d0,hd0,hs⟩:=hs;split at hs
  ·rename_i hdc;simp only[Option.bind_eq_some_iff]at hs;obtain⟨⟨s,m'',c⟩,q1,hs⟩:=hs;split at hs
   ·rename_i hsk;simp only[Option.some.injEq,Prod.mk.injEq]at hs;obtain⟨rfl,rfl⟩:=hs;have hwi:=gY hw.rel (by simpa [Option.bind_eq_some_iff]using hd0) hdc.1 hdc.2 hg;by_cases hgo:gOk (e d0) b=true
    ·simp only[ho,hwi,hgo,if_true];exact force q1 (fun p hp=>by cases hp;exact hdc.1) (.inr ⟨d0,b,rfl,hgo⟩) (by simp only[ew]at hk;rw[if_pos hgo]at hk;exact hk)
    ·have hgf:gOk (e d0) b=false:=by simpa using hgo
     simp only[ho,hwi,hgf,Bool.false_eq_true,if_false];exact⟨fun _ _=>trivial,sc hw,hn β _ w _ h (ua hN hw q1 hdc.1 hsk hgf) (by simp only[ew]at hk;rw[if_neg hgo]at hk;exact hk)⟩
   ·cases hs
  ·cases hs
theorem iG(hN:N≤99999)(hsel:Region.noSelect ops=true)(hnd:∀ (j:Nat) (o:Oper),ops[j]?=some o→eZ o)(hdst:ops.all (hZ rs)=true){α:Type}{B:Array Bool→Bool}{T:List ME→Option α}{KT:α→KH}
  (fin:∀ listed m t β a w e h,B listed=true→T m=some t→Way r N rs vs β0 h0 h1 w0 m β a w e h→KT t e h→gp r P .any ops (fw r N rs vs β0 h0 w0 (fl K (fun _ _ _=>False))) (Sat β0 h1) n listed a w) :
  ∀ (σ:List (Bool × Nat)) (listed:Array Bool) (m:List ME) (l:List (Bool × SI)) (t:α) (β:Nat→Nat) (a:Act) (w:World) (e:Env) (h:H),lv .any ops B σ listed=true→uD P N rs vs ops T σ m=some (l,t)→Way r N rs vs β0 h0 h1 w0 m β a w e h →
   ew P h1 l e h (KT t)→gp r P .any ops (fw r N rs vs β0 h0 w0 (fl K (fun _ _ _=>False))) (Sat β0 h1) (n+σ.length) listed a w
 | [],listed,m,l,t,β,a,w,e,h,hB,hs,hw,hk=>by
  simp only[uD,Option.map_eq_some_iff,Prod.mk.injEq]at hs;obtain⟨t',ht,rfl,rfl⟩:=hs;exact fin listed m t' β a w e h hB ht hw hk
 | (b,i) :: σ,listed,m,l,t,β,a,w,e,h,hB,hs,hw,hk=>by
  simp only[uD,Option.bind_eq_some_iff]at hs;obtain⟨o,ho,⟨x,m'⟩,hx,hs⟩:=hs;split at hs
  ·rename_i hq;simp only[Option.map_eq_some_iff,Prod.mk.injEq]at hs;obtain⟨⟨l',t'⟩,hs,rfl,rfl⟩:=hs;rw[rm]at hk;cases b with
   | true =>
    simp only[lv,Bool.and_eq_true]at hB;exact AF (n:=n+σ.length) hN hsel hnd hdst ho hw hx (by simpa using hq) hB.1.1 hB.1.2 hk fun β a w e h hw hk=>iG hN hsel hnd hdst fin σ _ m' l' t' β a w e h hB.2 hs hw hk
   | false =>
    simp only[lv,Bool.and_eq_true,decide_eq_true_eq]at hB;refine⟨fun h0=>(by rw[hB.1]at h0;cases h0),fun j hj=>?_⟩;rw[hB.1]at hj;have hji:j=i:=by simpa using hj
    subst hji;exact nK (n:=n+σ.length) hN hnd hdst ho hw hx hk fun β a w e h hw hk=>iG hN hsel hnd hdst fin σ _ m' l' t' β a w e h hB.2 hs hw hk
  ·cases hs
end fork
inductive Sch
 | leaf (σ:List (Bool × Nat))
 | br (σ:List (Bool × Nat)) (i:Nat) (x:Sch) (j:Nat) (y:Sch)
inductive RX
 | leaf (l:List (Bool × SI))
 | br (l:List (Bool × SI)) (s:SI) (x:RX) (t:SI) (y:RX)
def Sch.len:Sch→Nat
 | .leaf σ=>σ.length
 | .br σ _ x _ _=>x.len+1+σ.length
def qX(md:Region.Mode)(ops:Array Oper):Sch→Array Bool→Bool
 | .leaf σ,listed=>lv md ops (fun listed=>(Region.ready md ops listed).isEmpty) σ listed
 | .br σ i x j y,listed=>decide (x.len=y.len) && lv md ops (fun listed=>!(Region.ready md ops listed).isEmpty && ((Region.ready md ops listed).all fun k=>k == i || k == j) && qX md ops x (listed.setIfInBounds i true) && qX md ops y (listed.setIfInBounds j true)) σ listed
def pG(P:Program)(N:Nat)(rs vs:KF)(all:Array Oper):Sch→List ME→Option RX
 | .leaf σ,m=>(uD P N rs vs all (fun _=>some ()) σ m).map fun y=>.leaf y.1
 | .br σ i x j y,m=>(uD P N rs vs all (fun m=>(all[i]?).bind fun o=>(rR P N rs vs all o m).bind fun s=>(pG P N rs vs all x s.2).bind fun u=>(all[j]?).bind fun p=>(rR P N rs vs all p m).bind fun t=>(pG P N rs vs all y t.2).map fun v=>(s.1,u,t.1,v)) σ m).map fun z=>.br z.1 z.2.1 z.2.2.1 z.2.2.2.1 z.2.2.2.2
def iC(P:Program)(h1:H):RX→Env→H→(KH)→Prop
 | .leaf l,e,h,K=>ew P h1 l e h K
 | .br l s x t y,e,h,K=>ew P h1 l e h fun e h=>(ew P h1 [(false,s)] e h fun e h=>iC P h1 x e h K)∧(ew P h1 [(false,t)] e h fun e h=>iC P h1 y e h K)
section tree
variable {r:KI} {P:Program} {N:Nat} {rs vs:KF} {K:KH} {ops:Array Oper} {β0:Nat→Nat} {h0 h1:H} {w0:World}
theorem mH(hN:N≤99999)(hsel:Region.noSelect ops=true)(hnd:∀ (j:Nat) (o:Oper),ops[j]?=some o→eZ o)(hdst:ops.all (hZ rs)=true):
  ∀ (σ:Sch) (listed:Array Bool) (m:List ME) (t:RX) (β:Nat→Nat) (a:Act) (w:World) (e:Env) (h:H),qX .any ops σ listed=true→pG P N rs vs ops σ m=some t→Way r N rs vs β0 h0 h1 w0 m β a w e h →
   iC P h1 t e h K→gp r P .any ops (fw r N rs vs β0 h0 w0 (fl K (fun _ _ _=>False))) (Sat β0 h1) σ.len listed a w
 | .leaf σ,listed,m,t,β,a,w,e,h,hB,hs,hw,hk=>by
  simp only[pG,Option.map_eq_some_iff]at hs;obtain⟨⟨l,u⟩,hs,rfl⟩:=hs;have:=iG (r:=r) (K:=K) (n:=0) (KT:=fun(_:Unit)=>K) hN hsel hnd hdst (B:=fun listed=>(Region.ready .any ops listed).isEmpty) (fun listed m t β a w e h hB _ hw hk=>⟨by simpa using hB,β,e,h,hw.rel,hw.sat,hw.step,hk⟩) σ listed m l u β a w e h hB hs hw hk;rw[Nat.zero_add]at this;exact this
 | .br σ i x j y,listed,m,t,β,a,w,e,h,hB,hs,hw,hk=>by
  simp only[pG,Option.map_eq_some_iff]at hs;obtain⟨⟨l,s,u,t,v⟩,hs,rfl⟩:=hs;simp only[qX,Bool.and_eq_true,decide_eq_true_eq]at hB;refine iG (r:=r) (K:=K) (n:=x.len+1) (KT:=fun(z:SI × RX × SI × RX) e h=>(ew P h1 [(false,z.1)] e h fun e h=>iC P h1 z.2.1 e h K)∧(ew P h1 [(false,z.2.2.1)] e h fun e h=>iC P h1 z.2.2.2 e h K)) hN hsel hnd hdst ?_ σ listed m l _ β a w e h hB.2 hs hw hk
  intro listed m z β a w e h hb hz hw hk;simp only[Bool.and_eq_true,List.all_eq_true,Bool.or_eq_true,beq_iff_eq]at hb;simp only[Option.bind_eq_some_iff,Option.map_eq_some_iff]at hz;obtain⟨o,ho,⟨s,ms⟩,h5,u,h6,p,hp,⟨t,mt⟩,h7,v,h8,rfl⟩:=hz;refine⟨fun h9=>(by rw[h9]at hb;simp at hb),fun k hkr=>?_⟩;rcases hb.1.1.2 k hkr with rfl | rfl
  ·exact nK hN hnd hdst ho hw h5 hk.1 fun β a w e h hw hk=>mH hN hsel hnd hdst x _ _ _ β a w e h hb.1.2 h6 hw hk
  ·refine nK hN hnd hdst hp hw h7 hk.2 fun β a w e h hw hk=>?_
   rw[hB.1];exact mH hN hsel hnd hdst y _ _ _ β a w e h hb.2 h8 hw hk
theorem r8{Q:Exit→KH}{e:Env}{h:H}{id:Nat}{t:RX}(σ:Sch)(L1:Kw)(hL:L1.Sublist h.L)(hmix:P.follows .mixedOrders=true)(hsel:Region.noSelect ops=true)(hnd:fY ops=true)(hdst:ops.all (hZ rs)=true)
  (hB:qX .any ops σ (Array.replicate ops.size false)=true) (hlen:σ.len=ops.size) (hN:N≤99999) (hs:pG P N rs vs ops σ []=some t)
  (hk:iC P ⟨h.G,L1,h.D⟩ t e h fun e h=>Q .normal e h):wpH r P N rs vs (.region id ops true) Q e h:=by
 intro β a w hr hw;refine wpIn_mono (Q:=fw r N rs vs β h w (fl (fun e h=>Q .normal e h) (fun _ _ _=>False))) (wpIn_region_any hmix ?_) (fun x a w ⟨β',e',h',q1,q2,q3,q4⟩=>⟨β',e',h',q1,q2,q3,by cases x <;> first | exact q4 | exact q4.elim⟩)
 rw[← hlen];refine iZ (S:=Sat β ⟨h.G,L1,h.D⟩) _ _ _ _ ?_;refine mH hN hsel (g9 hnd) hdst σ _ [] t β a _ e h ?_ hs ⟨hr,⟨fun x hx=>by cases hx⟩,(fun x hx=>by cases hx),⟨hw.g,hw.l,hw.nd,hw.df,hw.d⟩,⟨rfl,rfl,rfl,Nat.le_refl _,fun _ _ _=>rfl,KO,fun _ h h'=>absurd h h',fun _ h=>.inl h,[],rfl,by simp⟩,⟨KO,hL,rfl⟩,(fun _ _ _=>rfl)⟩ hk;rw[hlen];exact hB
end tree
def wD(ops:Array Oper)(tk:Nat→Bool):Nat→Array Bool→List (Bool × Nat)→Sch
 | 0,_,acc=>.leaf acc.reverse
 | f+1,listed,acc =>
  match Region.ready .any ops listed with
  | []=>.leaf acc.reverse
  | i :: is =>
   match (i :: is).find? fun j=>tk j && Region.free .any ops listed j with
   | some j=>wD ops tk f (listed.setIfInBounds j true) ((true,j) :: acc)
   | none=>match is with
    | []=>wD ops tk f (listed.setIfInBounds i true) ((false,i) :: acc)
    | j :: _=>.br acc.reverse i (wD ops tk f (listed.setIfInBounds i true) []) j (wD ops tk f (listed.setIfInBounds j true) [])
end Go.Kx
namespace Go.Kx
open Go Go.RowKit
open List (getElem?_eq_getElem mem_of_getElem? length_append append_nil take_length)
section held
variable {r:KI} {P:Program} {md:Region.Mode} {ops:Array Oper} {Q:Exit→Act→World→Prop}
def Bu(md:Region.Mode)(ops:Array Oper):Nat→Nat→Nat→Bool
 | 0,_,_=>false
 | n+1,i,f=>match ops[f]? with
  | none=>false
  | some o=>o.after.any fun e=>Region.binds md e && (e.on == i || Bu md ops n i e.on)
def lp(md:Region.Mode)(ops:Array Oper)(listed:Array Bool):Prop :=
 ∀ j o,listed.getD j false=true→ops[j]?=some o→∀ e∈o.after,Region.binds md e=true→listed.getD e.on false=true
theorem nF{listed:Array Bool}{i:Nat}(hc:lp md ops listed)(hi:listed.getD i false=false):∀ n f,listed.getD f false=true→Bu md ops n i f=false
 | 0,_,_=>rfl
 | n+1,f,hf=>by
  unfold Bu;split
  ·rfl
  ·rename_i o ho;have:∀ e∈o.after,(Region.binds md e && (e.on == i || Bu md ops n i e.on))=false:=fun e he=>by
    cases hb:Region.binds md e with
    | false=>rfl
    | true =>
     have h1:=hc f o hf ho e he hb;have h2:(e.on == i)=false:=by
      have:¬ e.on=i:=fun h=>by rw[h,hi]at h1;cases h1
      simpa using this
     simp[h2,nF hc hi n e.on h1]
   rw[Array.any_eq_false];intro k hk;rw[this _ (Array.getElem_mem hk)];simp
theorem lp.set{listed:Array Bool}{j:Nat}(hc:lp md ops listed)(hj:j∈Region.ready md ops listed):lp md ops (listed.setIfInBounds j true):=fun k o hk ho e he hb=>by
 obtain⟨hjl,oj,hoj,hall⟩:=mem_ready.1 hj;by_cases hkj:k=j
 ·subst hkj;rw[ho]at hoj;cases hoj;exact getD_set_true (hall e he hb)
 ·rw[getD_set_ne false (fun h=>hkj h.symm)]at hk;exact getD_set_true (hc k o hk ho e he hb)
def ke(md:Region.Mode)(ops:Array Oper)(F:KF)(listed:Array Bool)(i:Nat):Prop:=∀ f∈F,listed.getD f false=true→Bu md ops ops.size i f=false
theorem ke.of_set{F:KF}{listed:Array Bool}{i j:Nat}(h:ke md ops F (listed.setIfInBounds j true) i):ke md ops F listed i:=fun f hf hl=>h f hf (getD_set_true hl)
theorem ke.set{F:KF}{listed:Array Bool}{i j:Nat}(hj:j∉F)(h:ke md ops F listed i):ke md ops F (listed.setIfInBounds j true) i:=fun f hf hl=>by
 rw[getD_set_ne false (fun he=>hj (by rw[he];exact hf))]at hl;exact h f hf hl
def iY(r:KI)(P:Program)(md:Region.Mode)(ops:Array Oper)(Q:Exit→Act→World→Prop)(F:KF)(T:List (Nat × (World→Prop))):Nat→Array Bool→Act→World→Prop
 | 0,listed,a,w=>Region.ready md ops listed=[]∧Q .normal a w
 | fuel+1,listed,a,w =>
  (Region.ready md ops listed=[]→Q .normal a w) ∧
  ∀ i∈Region.ready md ops listed,wpOpIn (Fr r) 0 P ops Q i (fun a' w'=>(∀ p∈T,ke md ops F (listed.setIfInBounds i true) p.1→p.2 w')∧iY r P md ops Q F T fuel (listed.setIfInBounds i true) a' w') a w
theorem kc{F:KF}{T:List (Nat × (World→Prop))}:∀ (fuel:Nat) (listed:Array Bool) (a:Act) (w:World),iY r P md ops Q F T fuel listed a w→wpAnyIn (Fr r) 0 P md ops Q fuel listed a w
 | 0,_,_,_,h=>h
 | fuel+1,_,_,_,h=>⟨h.1,fun i hi=>wpOpIn_mono (fun a' w' h'=>kc fuel _ a' w' h'.2) (h.2 i hi)⟩
theorem ko{F:KF}{T T':List (Nat × (World→Prop))}(hT:∀ p∈T,p∈T'):∀ (fuel:Nat) (listed:Array Bool) (a:Act) (w:World),iY r P md ops Q F T' fuel listed a w→iY r P md ops Q F T fuel listed a w
 | 0,_,_,_,h=>h
 | fuel+1,_,_,_,h=>⟨h.1,fun i hi=>wpOpIn_mono (fun a' w' h'=>⟨fun p hp=>h'.1 p (hT p hp),ko hT fuel _ a' w' h'.2⟩) (h.2 i hi)⟩
theorem lW{F:KF}{T:List (Nat × (World→Prop))}{C:World→Prop}{i:Nat}{oi:Oper}{v:Value}(hd:∀ (j:Nat) (o:Oper),ops[j]?=some o→eZ o)(hi:ops[i]?=some oi)(hsel:∀ (j:Nat) (o:Oper) cs b,ops[j]?=some o→o.op≠.select cs b)
  (hQ:∀ c a w,Q (.panic c) (a.put oi.dst v) w→Q (.panic c) a w) (hF:i∉F) :
  ∀ (fuel:Nat) (listed:Array Bool) (a:Act) (w:World),lp md ops listed →
   (∀ j oj,ops[j]?=some oj→j≠i→listed.getD j true=false→(∀ e∈oj.after,Region.binds md e=true→e.on≠i)→oi.apart ops oj=true) →
   i∈Region.ready md ops listed→YieldsIf P ops C oi v a→C w→(∀ p∈T,ke md ops F listed p.1→p.2 w) →
   iY r P md ops Q F ((i,C) :: T) fuel (listed.setIfInBounds i true) (a.put oi.dst v) w→iY r P md ops Q F T (fuel+1) listed a w:=by
 intro fuel
 induction fuel with
 | zero =>
  intro listed a w _ _ hr hy hC hT H;refine⟨fun h=>(by rw[h]at hr;cases hr),fun j hj=>?_⟩;by_cases hji:j=i
  ·subst hji;exact iR (hd _ _ hi) hi hy hC ⟨fun p hp he=>hT p hp he.of_set,ko (fun p hp=>.tail _ hp) _ _ _ _ H⟩
  ·have:=ready_mono hj hji;rw[H.1]at this;cases this
 | succ fuel ih =>
  intro listed a w hcl hfree hr hy hC hT H;refine⟨fun h=>(by rw[h]at hr;cases hr),fun j hj=>?_⟩;by_cases hji:j=i
  ·subst hji;exact iR (hd _ _ hi) hi hy hC ⟨fun p hp he=>hT p hp he.of_set,ko (fun p hp=>.tail _ hp) _ _ _ _ H⟩
  ·have h1:=H.2 j (ready_mono hj hji);obtain⟨hjun,oj,hoj,hall⟩:=mem_ready.1 hj;have hiun:=getD_both (mem_ready.1 hr).1;have hnot:∀ e∈oj.after,Region.binds md e=true→e.on≠i:=fun e he hb heq=>by
    have h1:=hall e he hb;rw[heq,hiun]at h1;cases h1
   have h2:=ki (hd _ _ hoj) hoj (hfree j oj hoj hji hjun hnot) (fun cs b=>hsel i oi cs b hi) (fun cs b=>hsel j oj cs b hoj) hQ hy h1;have hfree':∀ k ok,ops[k]?=some ok→k≠i→(listed.setIfInBounds j true).getD k true=false →
     (∀ e∈ok.after,Region.binds md e=true→e.on≠i)→oi.apart ops ok=true:=fun k ok hk hki hun hno=>by
    refine hfree k ok hk hki ?_ hno;by_cases hjk:j=k
    ·subst hjk;exact hjun
    ·rw[getD_set_ne true hjk]at hun;exact hun
   have hcl':=hcl.set hj;have hiun':(listed.setIfInBounds j true).getD i false=false:=by rw[getD_set_ne false hji];exact hiun
   refine wpOpIn_mono (fun a' w' h3=>?_) h2;obtain⟨hy',hTT,H'⟩:=h3;have hswap:(listed.setIfInBounds i true).setIfInBounds j true=(listed.setIfInBounds j true).setIfInBounds i true:=Array.setIfInBounds_comm _ _ (Ne.symm hji);rw[hswap]at hTT H';have hCw:C w':=hTT (i,C) (.head _) (ke.set hF fun f hf hl=>nF hcl' hiun' _ f hl)
   have hTw:∀ p∈T,ke md ops F (listed.setIfInBounds j true) p.1→p.2 w':=fun p hp he=>hTT p (.tail _ hp) (he.set hF)
   exact⟨hTw,ih (listed.setIfInBounds j true) a' w' hcl' hfree' (ready_mono hr (Ne.symm hji)) hy' hCw hTw H'⟩
end held
def gS(md:Region.Mode)(ops:Array Oper)(F:KF)(rd:Nat→Bool):List (Bool × Bool × Nat)→Array Bool→KF→Bool
 | [],listed,_=>(Region.ready md ops listed).isEmpty
 | (true,_,i) :: l,listed,M=>(Region.ready md ops listed).contains i && Region.free md ops listed i && !F.contains i && gS md ops F rd l (listed.setIfInBounds i true) (if rd i then i :: M else M)
 | (false,z,i) :: l,listed,M=>decide (Region.ready md ops listed=[i]) && (!z || M.all fun t=>F.any fun f=>(listed.setIfInBounds i true).getD f false && Bu md ops ops.size t f) && gS md ops F rd l (listed.setIfInBounds i true) M
def kD(ops:Array Oper)(σ:List (Bool × Bool × Nat)):Option (List Oper):=σ.mapM fun p=>ops[p.2.2]?
abbrev WI:=Bool × Bool × SI
def qf:List (Bool × Bool × Nat)→Ku→List WI
 | p :: σ,s :: sl=>(p.1,p.2.1,s) :: qf σ sl
 | _,_=>[]
def kl(rd:Nat→Bool):List (Bool × Bool × Nat)→Ku→Bool
 | p :: σ,s :: sl=>(!p.1 || (eY s.s && (!iJ s.s || rd p.2.2))) && kl rd σ sl
 | _,_=>true
def eH(P:Program):H→List WI→Env→H→(KH)→Prop
 | _,[],e,h,K=>K e h
 | h1,(true,_,⟨none,s,c,_⟩) :: l,e,h,K=>ly P c s e h1 fun e=>eH P h1 l e h K
 | h1,(true,_,⟨some (d,b),s,c,k⟩) :: l,e,h,K=>if gOk (e d) b=true then ly P c s e h1 fun e=>eH P h1 l e h K else eH P h1 l (e.set k undef) h K
 | h1,(false,false,⟨none,s,c,_⟩) :: l,e,h,K=>opC P c s e h fun e h=>ow h1 h∧eH P h1 l e h K
 | h1,(false,false,⟨some (d,b),s,c,k⟩) :: l,e,h,K=>if gOk (e d) b=true then opC P c s e h fun e h=>ow h1 h∧eH P h1 l e h K else eH P h1 l (e.set k undef) h K
 | h1,(false,true,⟨none,s,c,_⟩) :: l,e,h,K=>opC P c s e h fun e h=>∃ L1,L1.Sublist h.L∧eH P ⟨h.G,L1,h.D⟩ l e h K
 | h1,(false,true,⟨some (d,b),s,c,k⟩) :: l,e,h,K=>if gOk (e d) b=true then opC P c s e h fun e h=>∃ L1,L1.Sublist h.L∧eH P ⟨h.G,L1,h.D⟩ l e h K else eH P h1 l (e.set k undef) h K
section sched
variable {r:KI} {P:Program} {N:Nat} {rs vs:KF} {K:KH}
theorem iz{ops:Array Oper}{F:KF}{rd:Nat→Bool}(hN:N≤99999)(hsel:Region.noSelect ops=true)(hnd:∀ (j:Nat) (o:Oper),ops[j]?=some o→eZ o)(hdst:ops.all (hZ rs)=true){β0:Nat→Nat}{h0:H}{w0:World}:
  ∀ (σ:List (Bool × Bool × Nat)) (listed:Array Bool) (M:KF) (ol:List Oper) (m:List ME) (sl:Ku) (β:Nat→Nat) (a:Act) (w:World) (e:Env) (h:H) (βc:Nat→Nat) (h1:H) (T:List (Nat × (World→Prop))),
  gS .any ops F rd σ listed M=true→lp .any ops listed→kD ops σ=some ol→fC P N rs vs ops ol m=some sl→kl rd σ sl=true→Rel r N rs vs β a e h→MapOk N rs vs β a e m→GM N m→Sat β h w→Step β0 h0 w0 β h w→ow h1 h→(∀ s cs,Item.reg s cs∈h1.L→β s=βc s) →
  (∀ p∈T,(∀ w,p.2 w)∨(p.1∈M∧((∀ w,Sat βc h1 w→p.2 w)∨¬ ke .any ops F listed p.1)))→eH P h1 (qf σ sl) e h K →
  iY r P .any ops (fw r N rs vs β0 h0 w0 (fl K (fun _ _ _=>False))) F T σ.length listed a w
 | [],listed,M,ol,m,sl,β,a,w,e,h,βc,h1,T,hB,_,_,_,_,hr,_,_,hw,hst,_,_,_,hk=>by
  simp only[qf,eH]at hk;exact⟨by simpa [gS]using hB,β,e,h,hr,hw,hst,hk⟩
 | (t,z,i) :: σ,listed,M,ol,m,sl,β,a,w,e,h,βc,h1,T,hB,hcl,hol,hs,hfl,hr,hm,hgm,hw,hst,hgr,hag,hT,hk=>by
  simp only[kD,List.mapM_cons,Option.bind_eq_bind,Option.bind_eq_some_iff,Option.pure_def,Option.some.injEq]at hol;obtain⟨o,ho,ol',hol',rfl⟩:=hol;have hdo:hZ rs o=true:=by
   have:=Array.all_eq_true.1 hdst i (Array.getElem?_eq_some_iff.1 ho).1;rw[(Array.getElem?_eq_some_iff.1 ho).2]at this;exact this
  have hgm9:∀ x∈m,∀ p,x.g=some p→p.1 < 99999:=fun x hx p hp=>Nat.lt_of_lt_of_le (hgm x hx p hp) hN
  have hS:Sat βc h1 w:=gg hag (jm hgr hw);have hTw:∀ p∈T,ke .any ops F listed p.1→p.2 w:=fun p hp he=>by
   rcases hT p hp with h | ⟨_,h | h⟩
   ·exact h w
   ·exact h w hS
   ·exact absurd he h
  have hT1:∀ {M':KF},(∀ x∈M,x∈M')→∀ p∈T,(∀ w,p.2 w)∨(p.1∈M'∧((∀ w,Sat βc h1 w→p.2 w)∨¬ ke .any ops F (listed.setIfInBounds i true) p.1)):=fun hM p hp=>by
   rcases hT p hp with h | ⟨h0,h | h⟩
   ·exact .inl h
   ·exact .inr ⟨hM _ h0,.inl h⟩
   ·exact .inr ⟨hM _ h0,.inr fun he=>h he.of_set⟩
  -- one operation is left out
  have skip:∀ {s m' c d0 b sl' M' T'},hU P N rs vs m (some (d0,b)) o=some (s,m',c)→d0 < N→mQ rs vs m m' (some (d0,b)) o=true→gOk (e d0) b=false→fC P N rs vs ops ol' m'=some sl'→gS .any ops F rd σ (listed.setIfInBounds i true) M'=true →
    kl rd σ sl'=true→lp .any ops (listed.setIfInBounds i true)→(∀ p∈T',(∀ w,p.2 w)∨(p.1∈M'∧((∀ w,Sat βc h1 w→p.2 w)∨¬ ke .any ops F (listed.setIfInBounds i true) p.1)))→eH P h1 (qf σ sl') (e.set (mj vs o) undef) h K →
    iY r P .any ops (fw r N rs vs β0 h0 w0 (fl K (fun _ _ _=>False))) F T' σ.length (listed.setIfInBounds i true) (a.put o.dst undef) w:=by
   intro s m' c d0 b sl' M' T' q1 q2 q3 q4 q5 q6 q7 qc qT q8;have hsn:=iq (o:=o) q3 hN hr hm q4 (jX q1 (fun x hx=>(hm.ok x hx).1));exact iz hN hsel hnd hdst σ _ M' ol' m' sl' β _ w _ h βc h1 T' q6 qc hol' q5 q7 hsn.1 hsn.2 (fy q1 hgm (fun p hp=>by cases hp;exact q2)) hw hst hgr hag qT q8
  -- one that reads
  have take:∀ {s m' c g sl'},hU P N rs vs m g o=some (s,m',c)→(∀ p,g=some p→p.1 < N)→(g=none∨∃ d b,g=some (d,b)∧gOk (e d) b=true)→Region.wanted o (yielded ops a.tmps)=true→eY s=true→(iJ s=true→rd i=true)→fC P N rs vs ops ol' m'=some sl' →
    i∈Region.ready .any ops listed→Region.free .any ops listed i=true→i∉F→gS .any ops F rd σ (listed.setIfInBounds i true) (if rd i then i :: M else M)=true→kl rd σ sl'=true →
    ly P c s e h1 (fun e=>eH P h1 (qf σ sl') e h K)→iY r P .any ops (fw r N rs vs β0 h0 w0 (fl K (fun _ _ _=>False))) F T (σ.length+1) listed a w:=by
   intro s m' c g sl' q1 q2 q3 qw q4 qr q5 q6 q7 qF q8 q9 q10
   let C:World→Prop:=fun w=>iJ s=true→Sat βc h1 w
   have hC:iJ s=true→∀ w,C w→Sat β h1 w:=fun hrd w hs=>gg (fun s cs hm=>(hag s cs hm).symm) (hs hrd)
   obtain⟨v,hv,e',z1,z2,z3⟩:=py (C:=C) q1 hN (nr hgr hr) hC q4 q10 hm hgm9 q3;refine lW (C:=C) hnd ho (Region.noSelect_spec hsel) (fun c a w hq=>by obtain⟨_,_,_,_,_,_,hf⟩:=hq;exact hf.elim) qF σ.length listed a w hcl (Region.free_spec ho q7) q6 (.inl ⟨qw,hv⟩) (fun _=>hS) hTw ?_
   refine iz hN hsel hnd hdst σ _ _ ol' m' sl' β _ w e' h βc h1 _ q8 (hcl.set q6) hol' q5 q9 (np hgr hdo hr z1) z2 (fy q1 hgm q2) hw hst hgr hag (fun p hp=>?_) z3;rcases List.mem_cons.1 hp with rfl | hp
   ·cases hrd:iJ s with
    | false=>exact .inl fun w h=>by rw[hrd]at h;cases h
    | true=>exact .inr ⟨by rw[qr hrd];simp,.inl fun w h _=>h⟩
   ·exact hT1 (fun x hx=>by split;exact .tail _ hx;exact hx) p hp
  -- one that has to come
  have force:∀ {s m' c g sl'},hU P N rs vs m g o=some (s,m',c)→(∀ p,g=some p→p.1 < N)→(g=none∨∃ d b,g=some (d,b)∧gOk (e d) b=true)→fC P N rs vs ops ol' m'=some sl'→i∈Region.ready .any ops listed →
    gS .any ops F rd σ (listed.setIfInBounds i true) M=true→kl rd σ sl'=true →
    opC P c s e h (fun e h=>ow h1 h∧eH P h1 (qf σ sl') e h K)→o.wpIn (Fr r) 0 P a w (fun a' w'=>(∀ p∈T,ke .any ops F (listed.setIfInBounds i true) p.1→p.2 w')∧iY r P .any ops (fw r N rs vs β0 h0 w0 (fl K (fun _ _ _=>False))) F T σ.length (listed.setIfInBounds i true) a' w') (fw r N rs vs β0 h0 w0 (fl K (fun _ _ _=>False))):=by
   intro s m' c g sl' q1 q2 q3 q5 q6 q8 q9 q10;refine iu (lP (hnd i o ho) (jL (Q:=fw r N rs vs β0 h0 w0 (fl K (fun _ _ _=>False))) q1 hN hr hw q10 hm hgm9 q3)) ?_;rintro a' w' ⟨⟨β',e',h',r1,r2,r3,r4,r5,r6⟩,v,hv⟩;have hag':∀ s cs,Item.reg s cs∈h1.L→β' s=βc s:=fun s cs hm=>by
    obtain⟨p1,p2,p3⟩:=hr.reg s cs (hgr.2.1.subset hm);obtain⟨n1,n2,n3⟩:=r1.reg s cs (r5.2.1.subset hm);rw[hv,rF (by simpa using p1.1) hdo,p3]at n3;injection n3 with n3
    injection n3 with n3
    injection n3 with n3
    rw[← n3];exact hag s cs hm
   have hS':=gg hag' (jm r5 r3);refine⟨fun p hp he=>?_,iz hN hsel hnd hdst σ _ M ol' m' sl' β' a' w' e' h' βc h1 T q8 (hcl.set q6) hol' q5 q9 r1 r2 (fy q1 hgm q2) r3 (hst.trans r4) r5 hag' (hT1 fun _ h=>h) r6⟩;rcases hT p hp with h | ⟨_,h | h⟩
   ·exact h w'
   ·exact h w' hS'
   ·exact absurd he.of_set h
  -- one that has to come, and for that nobody waits
  have forceF:∀ {s m' c g sl'},hU P N rs vs m g o=some (s,m',c)→(∀ p,g=some p→p.1 < N)→(g=none∨∃ d b,g=some (d,b)∧gOk (e d) b=true)→fC P N rs vs ops ol' m'=some sl'→i∈Region.ready .any ops listed→(∀ t∈M,¬ ke .any ops F (listed.setIfInBounds i true) t) →
    gS .any ops F rd σ (listed.setIfInBounds i true) M=true→kl rd σ sl'=true →
    opC P c s e h (fun e h=>∃ L1,L1.Sublist h.L∧eH P ⟨h.G,L1,h.D⟩ (qf σ sl') e h K)→o.wpIn (Fr r) 0 P a w (fun a' w'=>(∀ p∈T,ke .any ops F (listed.setIfInBounds i true) p.1→p.2 w')∧iY r P .any ops (fw r N rs vs β0 h0 w0 (fl K (fun _ _ _=>False))) F T σ.length (listed.setIfInBounds i true) a' w') (fw r N rs vs β0 h0 w0 (fl K (fun _ _ _=>False))):=by
   intro s m' c g sl' q1 q2 q3 q5 q6 qM q8 q9 q10;refine iu (lP (hnd i o ho) (jL (Q:=fw r N rs vs β0 h0 w0 (fl K (fun _ _ _=>False))) q1 hN hr hw q10 hm hgm9 q3)) ?_;rintro a' w' ⟨⟨β',e',h',r1,r2,r3,r4,L1,r5,r6⟩,v,hv⟩
   refine⟨fun p hp he=>?_,iz hN hsel hnd hdst σ _ M ol' m' sl' β' a' w' e' h' β' ⟨h'.G,L1,h'.D⟩ T q8 (hcl.set q6) hol' q5 q9 r1 r2 (fy q1 hgm q2) r3 (hst.trans r4) ⟨KO,r5,rfl⟩ (fun _ _ _=>rfl) (fun p hp=>?_) r6⟩
   ·rcases hT p hp with h | ⟨h,_⟩
    ·exact h w'
    ·exact absurd he (qM _ h)
   ·rcases hT p hp with h | ⟨h,_⟩
    ·exact .inl h
    ·exact .inr ⟨h,.inr (qM _ h)⟩
  have hMz:(!z || M.all fun t=>F.any fun f=>(listed.setIfInBounds i true).getD f false && Bu .any ops ops.size t f)=true→z=true→∀ t∈M,¬ ke .any ops F (listed.setIfInBounds i true) t:=fun hz hzt t ht he=>by
   subst hzt;simp only[Bool.not_true,Bool.false_or,List.all_eq_true]at hz;have:=hz t ht;simp only[List.any_eq_true,Bool.and_eq_true]at this;obtain⟨f,hf,h1,h2⟩:=this;rw[he f hf h1]at h2;cases h2
  unfold fC at hs;split at hs
  ·rename_i hg;simp only[Option.bind_eq_some_iff,Option.map_eq_some_iff]at hs;obtain⟨⟨s,m',c⟩,q1,sl',q5,rfl⟩:=hs;have hw1:Region.wanted o (yielded ops a.tmps)=true:=by simp[Region.wanted,hg]
   simp only[kl,Bool.and_eq_true]at hfl;cases t with
   | true =>
    simp only[gS,Bool.and_eq_true]at hB;simp only[qf,eH]at hk;have hf:=hfl.1;simp only[Bool.not_true,Bool.false_or,Bool.and_eq_true,Bool.or_eq_true,Bool.not_eq_true']at hf;exact take q1 (fun p hp=>by cases hp) (.inl rfl) hw1 hf.1 (fun h=>by rcases hf.2 with h' | h';rw[h]at h';cases h';exact h') q5 (by simpa using hB.1.1.1) hB.1.1.2 (by simpa using hB.1.2) hB.2 hfl.2 hk
   | false =>
    simp only[gS,Bool.and_eq_true,decide_eq_true_eq]at hB;have hri:i∈Region.ready .any ops listed:=by rw[hB.1.1];simp
    refine⟨fun h0=>(by rw[hB.1.1]at h0;cases h0),fun j hj=>?_⟩;rw[hB.1.1]at hj;have hji:j=i:=by simpa using hj
    subst hji;unfold wpOpIn;simp only[ho,hw1,if_true];cases z with
    | false =>
     simp only[qf,eH]at hk;exact force q1 (fun p hp=>by cases hp) (.inl rfl) q5 hri hB.2 hfl.2 hk
    | true =>
     simp only[qf,eH]at hk;exact forceF q1 (fun p hp=>by cases hp) (.inl rfl) q5 hri (hMz hB.1.2 rfl) hB.2 hfl.2 hk
  ·rename_i j0 b hg;simp only[Option.bind_eq_some_iff]at hs;obtain⟨d0,hd0,hs⟩:=hs;split at hs
   ·rename_i hdc;simp only[Option.bind_eq_some_iff]at hs;obtain⟨⟨s,m',c⟩,q1,hs⟩:=hs;split at hs
    ·rename_i hsk;simp only[Option.map_eq_some_iff]at hs;obtain⟨sl',q5,rfl⟩:=hs;have hwi:=gY hr (by simpa [Option.bind_eq_some_iff]using hd0) hdc.1 hdc.2 hg;simp only[kl,Bool.and_eq_true]at hfl;cases t with
     | true =>
      simp only[gS,Bool.and_eq_true]at hB;simp only[qf,eH]at hk;have hf:=hfl.1;simp only[Bool.not_true,Bool.false_or,Bool.and_eq_true,Bool.or_eq_true,Bool.not_eq_true']at hf;have hri:i∈Region.ready .any ops listed:=by simpa using hB.1.1.1
      by_cases hgo:gOk (e d0) b=true
      ·rw[if_pos hgo]at hk;exact take q1 (fun p hp=>by cases hp;exact hdc.1) (.inr ⟨d0,b,rfl,hgo⟩) (by rw[hwi];exact hgo) hf.1 (fun h=>by rcases hf.2 with h' | h';rw[h]at h';cases h';exact h') q5 hri hB.1.1.2 (by simpa using hB.1.2) hB.2 hfl.2 hk
      ·rw[if_neg hgo]at hk;have hgf:gOk (e d0) b=false:=by simpa using hgo
       refine lW (C:=fun _=>True) hnd ho (Region.noSelect_spec hsel) (fun c a w hq=>by obtain⟨_,_,_,_,_,_,hf⟩:=hq;exact hf.elim) (by simpa using hB.1.2) σ.length listed a w hcl (Region.free_spec ho hB.1.1.2) hri (.inr ⟨by rw[hwi];exact hgf,rfl⟩) trivial hTw
        (skip q1 hdc.1 hsk hgf q5 hB.2 hfl.2 (hcl.set hri) (fun p hp=>?_) hk)
       rcases List.mem_cons.1 hp with rfl | hp
       ·exact .inl fun _=>trivial
       ·exact hT1 (fun x hx=>by split;exact .tail _ hx;exact hx) p hp
     | false =>
      simp only[gS,Bool.and_eq_true,decide_eq_true_eq]at hB;have hri:i∈Region.ready .any ops listed:=by rw[hB.1.1];simp
      refine⟨fun h0=>(by rw[hB.1.1]at h0;cases h0),fun j hj=>?_⟩;rw[hB.1.1]at hj;have hji:j=i:=by simpa using hj
      subst hji;unfold wpOpIn;by_cases hgo:gOk (e d0) b=true
      ·simp only[ho,hwi,hgo,if_true];cases z with
       | false =>
        simp only[qf,eH]at hk;rw[if_pos hgo]at hk;exact force q1 (fun p hp=>by cases hp;exact hdc.1) (.inr ⟨d0,b,rfl,hgo⟩) q5 hri hB.2 hfl.2 hk
       | true =>
        simp only[qf,eH]at hk;rw[if_pos hgo]at hk;exact forceF q1 (fun p hp=>by cases hp;exact hdc.1) (.inr ⟨d0,b,rfl,hgo⟩) q5 hri (hMz hB.1.2 rfl) hB.2 hfl.2 hk
      ·have hgf:gOk (e d0) b=false:=by simpa using hgo
       simp only[ho,hwi,hgf,Bool.false_eq_true,if_false];have hk':eH P h1 (qf σ sl') (e.set (mj vs o) undef) h K:=by
        cases z <;> simp only[qf,eH]at hk <;> rw[if_neg hgo]at hk <;> exact hk
       exact⟨fun _ _=>trivial,fun p hp he=>hTw p hp he.of_set,skip q1 hdc.1 hsk hgf q5 hB.2 hfl.2 (hcl.set hri) (hT1 fun _ h=>h) hk'⟩
    ·cases hs
   ·cases hs
theorem sU{Q:Exit→KH}{e:Env}{h:H}{id:Nat}{ops:Array Oper}{ol:List Oper}{sl:Ku}{F:KF}{rd:Nat→Bool}(σ:List (Bool × Bool × Nat))(L1:Kw)(hL:L1.Sublist h.L)(hmix:P.follows .mixedOrders=true)(hsel:Region.noSelect ops=true)(hnd:fY ops=true)(hdst:ops.all (hZ rs)=true)
  (hB:gS .any ops F rd σ (Array.replicate ops.size false) []=true) (hlen:σ.length=ops.size) (hol:kD ops σ=some ol) (hN:N≤99999) (hs:fC P N rs vs ops ol []=some sl) (hfl:kl rd σ sl=true)
  (hk:eH P ⟨h.G,L1,h.D⟩ (qf σ sl) e h fun e h=>Q .normal e h):wpH r P N rs vs (.region id ops true) Q e h:=by
 intro β a w hr hw;refine wpIn_mono (Q:=fw r N rs vs β h w (fl (fun e h=>Q .normal e h) (fun _ _ _=>False))) (wpIn_region_any hmix ?_) (fun x a w ⟨β',e',h',q1,q2,q3,q4⟩=>⟨β',e',h',q1,q2,q3,by cases x <;> first | exact q4 | exact q4.elim⟩)
 rw[← hlen];refine kc (F:=F) (T:=[]) _ _ _ _ ?_;refine iz hN hsel (g9 hnd) hdst σ _ [] ol [] sl β a _ e h β ⟨h.G,L1,h.D⟩ [] ?_ ?_ hol hs hfl hr ⟨fun x hx=>by cases hx⟩ (fun x hx=>by cases hx) ⟨hw.g,hw.l,hw.nd,hw.df,hw.d⟩ ⟨rfl,rfl,rfl,Nat.le_refl _,fun _ _ _=>rfl,KO,fun _ h h'=>absurd h h',fun _ h=>.inl h,[],rfl,by simp⟩ ⟨KO,hL,rfl⟩ (fun _ _ _=>rfl) (fun _ h=>by cases h) hk
 ·rw[hlen];exact hB
 ·intro j o hj;rw[getD_replicate_false]at hj;cases hj
end sched
def Dj(md:Region.Mode)(ops:Array Oper)(F:KF)(rd:Nat→Bool):List (Bool × Nat)→Array Bool→KF→List (Bool × Bool × Nat)
 | [],_,_=>[]
 | (true,i) :: l,listed,M=>(true,false,i) :: Dj md ops F rd l (listed.setIfInBounds i true) (if rd i then i :: M else M)
 | (false,i) :: l,listed,M=>(false,M.all (fun t=>F.any fun f=>(listed.setIfInBounds i true).getD f false && Bu md ops ops.size t f),i) :: Dj md ops F rd l (listed.setIfInBounds i true) M
def JA(l:Ku)(i:Nat):Bool:=match l[i]? with
 | some x=>iJ x.s
 | none=>true
def WOk(P:Program)(N:Nat)(rs vs:KF)(ops:Array Oper)(l':List WI):Prop :=
 ∃ F rd σ ol sl,Region.noSelect ops=true∧ops.all (hZ rs)=true∧gS .any ops F rd σ (Array.replicate ops.size false) []=true∧σ.length=ops.size∧kD ops σ=some ol∧fC P N rs vs ops ol []=some sl∧kl rd σ sl=true∧l'=qf σ sl
def yB(P:Program)(N:Nat)(rs vs:KF)(ops:Array Oper)(F:KF)(rd:Nat→Bool)(σ:List (Bool × Bool × Nat)):Option (List WI) :=
 if Region.noSelect ops=true∧ops.all (hZ rs)=true∧gS .any ops F rd σ (Array.replicate ops.size false) []=true∧σ.length=ops.size then
  (kD ops σ).bind fun ol=>(fC P N rs vs ops ol []).bind fun sl=>if kl rd σ sl=true then some (qf σ sl)else none
 else none
theorem wI{P:Program}{N:Nat}{rs vs:KF}{ops:Array Oper}{F:KF}{rd:Nat→Bool}{σ:List (Bool × Bool × Nat)}{l':List WI}(h:yB P N rs vs ops F rd σ=some l'):WOk P N rs vs ops l':=by
 unfold yB at h;split at h
 ·rename_i hc;simp only[Option.bind_eq_some_iff]at h;obtain⟨ol,h1,sl,h2,h⟩:=h;split at h
  ·rename_i h3;cases h;exact⟨F,rd,σ,ol,sl,hc.1,hc.2.1,hc.2.2.1,hc.2.2.2,h1,h2,h3,rfl⟩
  ·cases h
 ·cases h
def BJ(P:Program)(N:Nat)(rs vs:KF)(ops:Array Oper)(l:Ku)(σ:List (Bool × Nat)):Option (List WI) :=
 yB P N rs vs ops (σ.filterMap fun p=>if p.1 then none else some p.2) (JA l) (Dj .any ops (σ.filterMap fun p=>if p.1 then none else some p.2) (JA l) σ (Array.replicate ops.size false) [])
theorem wQ{P:Program}{N:Nat}{rs vs:KF}{ops:Array Oper}{l:Ku}{σ:List (Bool × Nat)}{l':List WI}(h:BJ P N rs vs ops l σ=some l'):WOk P N rs vs ops l':=wI h
end Go.Kx
namespace Go.Kx
open Go Go.RowKit
open List (getElem?_eq_getElem mem_of_getElem? length_append append_nil take_length)
inductive SC where
 | skip
 | reg (draw:Bool) (l:Ku)
 | rgT (l1 l2:Ku)
 | rgX (l:List (Bool × SI))
 | rgY (l:List (Bool × SI)) (l2:Ku)
 | rgZ (t:RX)
 | rgW (l:List WI)
 | dead
 | seq (x y:SC)
 | cond (c:O) (x y:SC)
 | blk (id:Nat) (x:SC)
 | loop (x:SC)
 | exit (id:Nat)
 | lab (l:Nat)
 | ret
 | rf (g:O) (ps:KF) (x y:SC)
 | scp (x:SC)
def oW:SOp→Bool
 | .bl0 _ | .alR _ _ | .bxR _ _ | .stR _ _ _ _ | .al _ _ | .bx _ _ | .st _ _ _ | .bls _ _ _ _ _ _ | .apz _ _ _ _ _ _ | .clr _ _ _ | .app _ _ _ _ _ _=>false
 | _=>true
def F9(ops:Array Oper):KI:=[ops.size - 1,ops.size - 2,ops.size - 3].find? fun n=>Region.lexTailB .any ops n
theorem zZ{ops:Array Oper}{n:Nat}(h:F9 ops=some n):Region.lexTailB .any ops n=true:=by
 have:=List.find?_some h;simpa using this
def zV(cl:Bool)(ops:Array Oper)(l:Ku):KI:=(F9 ops).bind fun n=>if ((l.take n).all fun x=>oW x.s && (cl || eY x.s))=true then some n else none
theorem tA{cl:Bool}{ops:Array Oper}{l:Ku}{n:Nat}(h:zV cl ops l=some n):Region.lexTailB .any ops n=true:=by
 simp only[zV,Option.bind_eq_some_iff]at h;obtain⟨m,hm,h⟩:=h;split at h
 ·cases h;exact zZ hm
 ·cases h
def vN(ops:Array Oper)(l:Ku):List (Bool × Nat) :=
 r9 ops (fun i=>match l[i]? with | some x=>oW x.s && eY x.s | none=>false) ops.size (Array.replicate ops.size false) []
def XOk(P:Program)(N:Nat)(rs vs:KF)(ops:Array Oper)(l':List (Bool × SI)):Prop :=
 ∃ σ ol sl,Region.noSelect ops=true∧ops.all (hZ rs)=true∧je .any ops σ (Array.replicate ops.size false)=true∧σ.length=ops.size∧gK ops σ=some ol∧fC P N rs vs ops ol []=some sl∧(((σ.map (·.1)).zip sl).all fun p=>!p.1 || eY p.2.s)=true∧l'=(σ.map (·.1)).zip sl
def x7(P:Program)(N:Nat)(rs vs:KF)(ops:Array Oper)(σ:List (Bool × Nat)):Option (List (Bool × SI)) :=
 if Region.noSelect ops=true∧ops.all (hZ rs)=true∧je .any ops σ (Array.replicate ops.size false)=true∧σ.length=ops.size then
  (gK ops σ).bind fun ol=>(fC P N rs vs ops ol []).bind fun sl=>if (((σ.map (·.1)).zip sl).all fun p=>!p.1 || eY p.2.s)=true then some ((σ.map (·.1)).zip sl)else none
 else none
theorem vI{P:Program}{N:Nat}{rs vs:KF}{ops:Array Oper}{σ:List (Bool × Nat)}{l':List (Bool × SI)}(h:x7 P N rs vs ops σ=some l'):XOk P N rs vs ops l':=by
 unfold x7 at h;split at h
 ·rename_i hc;simp only[Option.bind_eq_some_iff]at h;obtain⟨ol,h1,sl,h2,h⟩:=h;split at h
  ·rename_i h3;cases h;exact⟨σ,ol,sl,hc.1,hc.2.1,hc.2.2.1,hc.2.2.2,h1,h2,h3,rfl⟩
  ·cases h
 ·cases h
def IU:SOp→Bool
 | .st _ _ _ | .stR _ _ _ _=>true
 | _=>false
def oZ(ops:Array Oper)(tk:Nat→Bool)(n:Nat):Nat→Array Bool→List (Bool × Nat)→List (Bool × Nat)
 | 0,_,acc=>acc.reverse
 | f+1,listed,acc =>
  match (Region.ready .any ops listed).filter (· < n)with
  | []=>acc.reverse
  | i :: is =>
   match (i :: is).find? fun j=>tk j && Region.free .any ops listed j with
   | some j=>oZ ops tk n f (listed.setIfInBounds j true) ((true,j) :: acc)
   | none=>oZ ops tk n f (listed.setIfInBounds i true) ((false,i) :: acc)
def YOk(P:Program)(N:Nat)(rs vs:KF)(ops:Array Oper)(l1:List (Bool × SI))(l2:Ku):Prop :=
 ∃ n σ ol sl,(Region.noSelect ops=true∧ops.all (hZ rs)=true)∧(Region.sinkB .any ops n=true∧Region.chainB .any ops n=true∧n < ops.size)∧hX .any ops n σ (Array.replicate ops.size false)=true∧σ.length=n∧gK ops σ=some ol∧fC P N rs vs ops (ol++ops.toList.drop n) []=some sl∧(((σ.map (·.1)).zip sl).all fun p=>!p.1 || eY p.2.s)=true∧l1=(σ.map (·.1)).zip sl∧l2=sl.drop n
def yC(P:Program)(N:Nat)(rs vs:KF)(ops:Array Oper)(n:Nat)(σ:List (Bool × Nat)):Option (List (Bool × SI) × Ku) :=
 if (Region.noSelect ops=true∧ops.all (hZ rs)=true)∧(Region.sinkB .any ops n=true∧Region.chainB .any ops n=true∧n < ops.size)∧hX .any ops n σ (Array.replicate ops.size false)=true∧σ.length=n then
  (gK ops σ).bind fun ol=>(fC P N rs vs ops (ol++ops.toList.drop n) []).bind fun sl=>if (((σ.map (·.1)).zip sl).all fun p=>!p.1 || eY p.2.s)=true∧(((σ.map (·.1)).zip sl).all fun p=>!IU p.2.s)=true then some ((σ.map (·.1)).zip sl,sl.drop n)else none
 else none
theorem xz{P:Program}{N:Nat}{rs vs:KF}{ops:Array Oper}{n:Nat}{σ:List (Bool × Nat)}{p:List (Bool × SI) × Ku}(h:yC P N rs vs ops n σ=some p):YOk P N rs vs ops p.1 p.2:=by
 unfold yC at h;split at h
 ·rename_i hc;simp only[Option.bind_eq_some_iff]at h;obtain⟨ol,h1,sl,h2,h⟩:=h;split at h
  ·rename_i h3;cases h;exact⟨n,σ,ol,sl,hc.1,hc.2.1,hc.2.2.1,hc.2.2.2,h1,h2,h3.1,rfl,rfl⟩
  ·cases h
 ·cases h
def CT(P:Program)(N:Nat)(rs vs:KF)(ops:Array Oper)(l:Ku):Option (List (Bool × SI) × Ku) :=
 if (l.any fun x=>IU x.s)=true then
  [ops.size - 1,ops.size - 2,ops.size - 3,ops.size - 4].findSome? fun n=>yC P N rs vs ops n (oZ ops (fun i=>match l[i]? with | some x=>oW x.s && eY x.s | none=>false) n n (Array.replicate ops.size false) [])
 else none
theorem zr{P:Program}{N:Nat}{rs vs:KF}{ops:Array Oper}{l:Ku}{p:List (Bool × SI) × Ku}(h:CT P N rs vs ops l=some p):YOk P N rs vs ops p.1 p.2:=by
 unfold CT at h;split at h
 ·obtain⟨n,_,hn⟩:=List.exists_of_findSome?_eq_some h;exact xz hn
 ·cases h
def ZOk(P:Program)(N:Nat)(rs vs:KF)(ops:Array Oper)(t:RX):Prop :=
 ∃ σ,Region.noSelect ops=true∧ops.all (hZ rs)=true∧qX .any ops σ (Array.replicate ops.size false)=true∧σ.len=ops.size∧pG P N rs vs ops σ []=some t
def Cb(ops:Array Oper)(l:Ku):Sch :=
 wD ops (fun i=>match l[i]? with | some x=>oW x.s && eY x.s | none=>false) ops.size (Array.replicate ops.size false) []
def yE(P:Program)(N:Nat)(rs vs:KF)(ops:Array Oper)(l:Ku):Option RX :=
 if Region.noSelect ops=true∧ops.all (hZ rs)=true∧qX .any ops (Cb ops l) (Array.replicate ops.size false)=true∧(Cb ops l).len=ops.size then pG P N rs vs ops (Cb ops l) []else none
theorem xF{P:Program}{N:Nat}{rs vs:KF}{ops:Array Oper}{l:Ku}{t:RX}(h:yE P N rs vs ops l=some t):ZOk P N rs vs ops t:=by
 unfold yE at h;split at h
 ·rename_i hc;exact⟨_,hc.1,hc.2.1,hc.2.2.1,hc.2.2.2,h⟩
 ·cases h
def vX(P:Program)(N:Nat)(rs vs:KF)(ops:Array Oper)(l:Ku):Option SC :=
 if P.follows .mixedOrders=true∧fY ops=true then
   if Region.lexB .any ops=true∧(l.all fun x=>oW x.s)=true∧(l.all fun x=>eY x.s)=true then some (.reg true l)else
   match zV false ops l with
   | some n=>some (.rgT (l.take n) (l.drop n))
   | none=>match CT P N rs vs ops l with
    | some p=>some (.rgY p.1 p.2)
    | none=>match (if (l.any fun x=>IU x.s)=true then BJ P N rs vs ops l (vN ops l)else none)with
     | some l'=>some (.rgW l')
     | none=>match x7 P N rs vs ops (vN ops l)with
      | some l'=>some (.rgX l')
      | none=>if Region.lexB .any ops=true∧(l.all fun x=>oW x.s)=true then some (.reg true l)else(zV true ops l).map fun n=>.rgT (l.take n) (l.drop n)
 else none
theorem ut{P:Program}{N:Nat}{rs vs:KF}{ops:Array Oper}{l:Ku}{s:SC}(h:vX P N rs vs ops l=some s):
  (P.follows .mixedOrders=true∧fY ops=true)∧((s=.reg true l∧Region.lexB .any ops=true)∨(∃ n,s=.rgT (l.take n) (l.drop n)∧Region.lexTailB .any ops n=true)∨(∃ l',s=.rgX l'∧XOk P N rs vs ops l')∨(∃ l1 l2,s=.rgY l1 l2∧YOk P N rs vs ops l1 l2)∨∃ l',s=.rgW l'∧WOk P N rs vs ops l'):=by
 unfold vX at h;split at h
 ·rename_i hc;refine⟨hc,?_⟩;split at h
  ·rename_i h1;cases h;exact .inl ⟨rfl,h1.1⟩
  ·split at h
   ·rename_i n hn;cases h;exact .inr (.inl ⟨n,rfl,tA hn⟩)
   ·split at h
    ·rename_i p hp;cases h;exact .inr (.inr (.inr (.inl ⟨_,_,rfl,zr hp⟩)))
    ·split at h
     ·rename_i l' hl;cases h;split at hl
      ·exact .inr (.inr (.inr (.inr ⟨l',rfl,wQ hl⟩)))
      ·cases hl
     ·split at h
      ·rename_i l' hl;cases h;exact .inr (.inr (.inl ⟨l',rfl,vI hl⟩))
      ·split at h
       ·rename_i h1;cases h;exact .inl ⟨rfl,h1.1⟩
       ·simp only[Option.map_eq_some_iff]at h;obtain⟨n,hn,rfl⟩:=h;exact .inr (.inl ⟨n,rfl,tA hn⟩)
 ·cases h
def DW(P:Program)(N:Nat)(rs vs:KF)(ops:Array Oper)(l:Ku):Option SC :=
 match vX P N rs vs ops l with
 | some s=>some s
 | none=>if P.follows .mixedOrders=true∧fY ops=true then(yE P N rs vs ops l).map .rgZ else none
theorem yn{P:Program}{N:Nat}{rs vs:KF}{ops:Array Oper}{l:Ku}{s:SC}(h:DW P N rs vs ops l=some s):
  (P.follows .mixedOrders=true∧fY ops=true)∧((s=.reg true l∧Region.lexB .any ops=true)∨(∃ n,s=.rgT (l.take n) (l.drop n)∧Region.lexTailB .any ops n=true)∨(∃ l',s=.rgX l'∧XOk P N rs vs ops l')∨(∃ l1 l2,s=.rgY l1 l2∧YOk P N rs vs ops l1 l2)∨(∃ t,s=.rgZ t∧ZOk P N rs vs ops t)∨∃ l',s=.rgW l'∧WOk P N rs vs ops l'):=by
 unfold DW at h;split at h
 ·rename_i s' hs;cases h;obtain⟨h1,h2 | h2 | h2 | h2 | h2⟩:=ut hs
  ·exact⟨h1,.inl h2⟩
  ·exact⟨h1,.inr (.inl h2)⟩
  ·exact⟨h1,.inr (.inr (.inl h2))⟩
  ·exact⟨h1,.inr (.inr (.inr (.inl h2)))⟩
  ·exact⟨h1,.inr (.inr (.inr (.inr (.inr h2))))⟩
 ·split at h
  ·rename_i hc;simp only[Option.map_eq_some_iff]at h;obtain⟨t,ht,rfl⟩:=h;exact⟨hc,.inr (.inr (.inr (.inr (.inl ⟨t,rfl,xF ht⟩))))⟩
  ·cases h
inductive HI where
 | x (l:List (Bool × SI))
 | z (t:RX)
abbrev uw:=List (Nat × HI)
def HP(P:Program)(N:Nat)(rs vs:KF)(ops:Array Oper):HI→Prop
 | .x l=>XOk P N rs vs ops l
 | .z t=>ZOk P N rs vs ops t
def qQ:uw→Nat→Option HI
 | [],_=>none
 | (i,l) :: hs,id=>if (i == id)=true then some l else qQ hs id
def jw(hs:uw)(P:Program)(N:Nat)(rs vs:KF):Code→Option SC
 | .skip=>some .skip
 | .region id ops draw=>match qQ hs id with
  | some (.x l')=>if draw=true∧P.follows .mixedOrders=true∧fY ops=true then some (.rgX l')else none
  | some (.z t)=>if draw=true∧P.follows .mixedOrders=true∧fY ops=true then some (.rgZ t)else none
  | none=>match fC P N rs vs ops ops.toList []with
   | some l=>if draw=true then DW P N rs vs ops l else some (.reg false l)
   | none=>some .dead
 | .seq x y=>(jw hs P N rs vs x).bind fun x=>(jw hs P N rs vs y).map fun y=>.seq x y
 | .cond c x y=>(slO vs N c).bind fun c=>(jw hs P N rs vs x).bind fun x=>(jw hs P N rs vs y).map fun y=>.cond c x y
 | .block id x=>(jw hs P N rs vs x).map fun x=>.blk id x
 | .loop x=>(jw hs P N rs vs x).map fun x=>.loop x
 | .scope x=>(jw hs P N rs vs x).map fun x=>.scp x
 | .exit id=>some (.exit id)
 | .label l=>some (.lab l)
 | .ret=>some .ret
 | .rangeFunc g ps x y=>(slO vs N g).bind fun g=>if ps.all (fun p=>decide (p < N) && !vs.contains p)=true then(jw hs P N rs vs x).bind fun x=>(jw hs P N rs vs y).map fun y=>.rf g ps.toList x y else none
 | _=>none
def gv(P:Program)(N:Nat)(rs vs:KF)(c:Code):Option SC:=jw [] P N rs vs c
def jr(id:Nat):Code→List (Array Oper)
 | .region i ops _=>if (i == id)=true then[ops]else[]
 | .seq x y=>jr id x++jr id y
 | .cond _ x y=>jr id x++jr id y
 | .block _ x=>jr id x
 | .loop x=>jr id x
 | .scope x=>jr id x
 | .rangeFunc _ _ x y=>jr id x++jr id y
 | _=>[]
def Ki(id:Nat)(c:Code):Array Oper:=((jr id c).head?).getD #[]
def jD(P:Program)(N:Nat)(rs vs:KF)(c:Code)(s:SC):Prop:=∃ hs:uw,(∀ id l',qQ hs id=some l'→∀ ops∈jr id c,HP P N rs vs ops l')∧jw hs P N rs vs c=some s
def HOk(P:Program)(N:Nat)(rs vs:KF)(c:Code):uw→Prop
 | []=>True
 | (id,l) :: hs=>(∃ ops,jr id c=[ops]∧HP P N rs vs ops l)∧HOk P N rs vs c hs
theorem HOk.at_{P:Program}{N:Nat}{rs vs:KF}{c:Code}:∀ {hs:uw},HOk P N rs vs c hs→∀ id l',qQ hs id=some l'→∀ ops∈jr id c,HP P N rs vs ops l'
 | [],_,_,_,h,_,_=>by cases h
 | (i,l) :: hs,⟨⟨o,h1,h2⟩,h3⟩,id,l',h,ops,hops=>by
  rw[qQ]at h;split at h
  ·rename_i hi;have hi:i=id:=by simpa using hi
   subst hi;cases h;rw[h1]at hops;rw[List.mem_singleton.1 hops];exact h2
  ·exact HOk.at_ h3 id l' h ops hops
theorem jD.mk{P:Program}{N:Nat}{rs vs:KF}{c:Code}{s:SC}(hs:uw)(hok:HOk P N rs vs c hs)(h:jw hs P N rs vs c=some s):jD P N rs vs c s:=⟨hs,hok.at_,h⟩
def Bp(P:Program)(N:Nat)(rs vs:KF)(ops:Array Oper)(σ:List (Bool × Nat)):Option (List (Bool × SI)) :=
 (gK ops σ).bind fun ol=>(fC P N rs vs ops ol []).bind fun sl=>if (((σ.map (·.1)).zip sl).all fun p=>!p.1 || eY p.2.s)=true then some ((σ.map (·.1)).zip sl)else none
theorem XOk.mk{P:Program}{N:Nat}{rs vs:KF}{ops:Array Oper}{l':List (Bool × SI)}(σ:List (Bool × Nat))(h1:(Region.noSelect ops && ops.all (hZ rs))=true)(h2:je .any ops σ (Array.replicate ops.size false)=true)(h3:(σ.length == ops.size)=true)(h4:Bp P N rs vs ops σ=some l'):XOk P N rs vs ops l':=by
 simp only[Bp,Option.bind_eq_some_iff]at h4;obtain⟨ol,h5,sl,h6,h7⟩:=h4;split at h7
 ·rename_i h8;cases h7;simp only[Bool.and_eq_true]at h1;exact⟨σ,ol,sl,h1.1,h1.2,h2,by simpa using h3,h5,h6,h8,rfl⟩
 ·cases h7
theorem ZOk.mk{P:Program}{N:Nat}{rs vs:KF}{ops:Array Oper}{t:RX}(σ:Sch)(h1:(Region.noSelect ops && ops.all (hZ rs))=true)(h2:qX .any ops σ (Array.replicate ops.size false)=true)(h3:(σ.len == ops.size)=true)(h4:pG P N rs vs ops σ []=some t):ZOk P N rs vs ops t:=by
 simp only[Bool.and_eq_true]at h1;exact⟨σ,h1.1,h1.2,h2,by simpa using h3,h4⟩
theorem jD.of{P:Program}{N:Nat}{rs vs:KF}{c:Code}{s:SC}(h:gv P N rs vs c=some s):jD P N rs vs c s:=⟨[],fun _ _ h=>(by cases h),h⟩
def wK(r:KI)(P:Program)(N:Nat)(rs vs:KF)(s:SC)(Q:Exit→KH)(e:Env)(h:H):Prop :=
 ∀ c,jD P N rs vs c s→wpH r P N rs vs c Q e h
section rules
variable {r:KI} {P:Program} {N:Nat} {rs vs:KF} {Q:Exit→KH} {K:KH} {e:Env} {h:H}
theorem fp{c:Code}{s:SC}(hs:jD P N rs vs c s):
  match s with
  | .skip=>c=.skip
  | .reg d l=>∃ id ops,c=.region id ops d∧fC P N rs vs ops ops.toList []=some l∧(d=true→P.follows .mixedOrders=true∧Region.lexB .any ops=true∧fY ops=true)
  | .rgT l1 l2=>∃ id ops l n,c=.region id ops true∧fC P N rs vs ops ops.toList []=some l∧(P.follows .mixedOrders=true∧Region.lexTailB .any ops n=true∧fY ops=true)∧l1=l.take n∧l2=l.drop n
  | .rgX l'=>∃ id ops,c=.region id ops true∧(P.follows .mixedOrders=true∧fY ops=true)∧XOk P N rs vs ops l'
  | .rgY l1 l2=>∃ id ops,c=.region id ops true∧(P.follows .mixedOrders=true∧fY ops=true)∧YOk P N rs vs ops l1 l2
  | .rgZ t=>∃ id ops,c=.region id ops true∧(P.follows .mixedOrders=true∧fY ops=true)∧ZOk P N rs vs ops t
  | .rgW l'=>∃ id ops,c=.region id ops true∧(P.follows .mixedOrders=true∧fY ops=true)∧WOk P N rs vs ops l'
  | .dead=>True
  | .seq x y=>∃ cx cy,c=.seq cx cy∧jD P N rs vs cx x∧jD P N rs vs cy y
  | .cond o x y=>∃ co cx cy,c=.cond co cx cy∧slO vs N co=some o∧jD P N rs vs cx x∧jD P N rs vs cy y
  | .blk id x=>∃ cx,c=.block id cx∧jD P N rs vs cx x
  | .loop x=>∃ cx,c=.loop cx∧jD P N rs vs cx x
  | .scp x=>∃ cx,c=.scope cx∧jD P N rs vs cx x
  | .exit id=>c=.exit id
  | .lab l=>c=.label l
  | .ret=>c=.ret
  | .rf g ps x y=>∃ cg cps cx cy,c=.rangeFunc cg cps cx cy∧slO vs N cg=some g∧cps.toList=ps∧(cps.all (fun p=>decide (p < N) && !vs.contains p)=true)∧jD P N rs vs cx x∧jD P N rs vs cy y:=by
 obtain⟨hi,hin,hs⟩:=hs;cases c <;> simp only[jw]at hs <;> try (cases hs;done)
 case skip=>cases hs;rfl
 case region id ops d =>
  split at hs
  ·rename_i l' hl';split at hs
   ·rename_i hc;cases hs;obtain⟨rfl,hc⟩:=hc;exact⟨id,ops,rfl,hc,hin id (.x l') hl' ops (by simp[jr])⟩
   ·cases hs
  ·rename_i l' hl';split at hs
   ·rename_i hc;cases hs;obtain⟨rfl,hc⟩:=hc;exact⟨id,ops,rfl,hc,hin id (.z l') hl' ops (by simp[jr])⟩
   ·cases hs
  rename_i hno;split at hs
  ·rename_i l hl;cases d with
   | false=>simp at hs;subst hs;exact⟨id,ops,rfl,hl,fun h=>by cases h⟩
   | true =>
    simp only[if_true]at hs;obtain⟨hc,⟨rfl,h1⟩ | ⟨n,rfl,h1⟩ | ⟨l',rfl,h1⟩ | ⟨l1,l2,rfl,h1⟩ | ⟨t,rfl,h1⟩ | ⟨l',rfl,h1⟩⟩:=yn hs
    ·exact⟨id,ops,rfl,hl,fun _=>⟨hc.1,h1,hc.2⟩⟩
    ·exact⟨id,ops,l,n,rfl,hl,⟨hc.1,h1,hc.2⟩,rfl,rfl⟩
    ·exact⟨id,ops,rfl,hc,h1⟩
    ·exact⟨id,ops,rfl,hc,h1⟩
    ·exact⟨id,ops,rfl,hc,h1⟩
    ·exact⟨id,ops,rfl,hc,h1⟩
  ·cases hs;trivial
 case seq x y =>
  simp only[Option.bind_eq_some_iff,Option.map_eq_some_iff]at hs;obtain⟨x',hx,y',hy,rfl⟩:=hs;exact⟨x,y,rfl,⟨hi,(fun i l hl o ho=>hin i l hl o (by simp only[jr,List.mem_append];exact .inl ho)),hx⟩,⟨hi,(fun i l hl o ho=>hin i l hl o (by simp only[jr,List.mem_append];exact .inr ho)),hy⟩⟩
 case cond c x y =>
  simp only[Option.bind_eq_some_iff,Option.map_eq_some_iff]at hs;obtain⟨c',hc,x',hx,y',hy,rfl⟩:=hs;exact⟨c,x,y,rfl,hc,⟨hi,(fun i l hl o ho=>hin i l hl o (by simp only[jr,List.mem_append];exact .inl ho)),hx⟩,⟨hi,(fun i l hl o ho=>hin i l hl o (by simp only[jr,List.mem_append];exact .inr ho)),hy⟩⟩
 case block id x =>
  simp only[Option.map_eq_some_iff]at hs;obtain⟨x',hx,rfl⟩:=hs;exact⟨x,rfl,⟨hi,(fun i l hl o ho=>hin i l hl o ho),hx⟩⟩
 case loop x =>
  simp only[Option.map_eq_some_iff]at hs;obtain⟨x',hx,rfl⟩:=hs;exact⟨x,rfl,⟨hi,(fun i l hl o ho=>hin i l hl o ho),hx⟩⟩
 case scope x =>
  simp only[Option.map_eq_some_iff]at hs;obtain⟨x',hx,rfl⟩:=hs;exact⟨x,rfl,⟨hi,(fun i l hl o ho=>hin i l hl o ho),hx⟩⟩
 case exit id=>cases hs;rfl
 case label l=>cases hs;rfl
 case ret=>cases hs;rfl
 case rangeFunc g ps x y =>
  simp only[Option.bind_eq_some_iff]at hs;obtain⟨g',hg,hs⟩:=hs;split at hs
  ·rename_i hps;simp only[Option.bind_eq_some_iff,Option.map_eq_some_iff]at hs;obtain⟨x',hx,y',hy,rfl⟩:=hs;exact⟨g,ps,x,y,rfl,hg,rfl,hps,⟨hi,(fun i l hl o ho=>hin i l hl o (by simp only[jr,List.mem_append];exact .inl ho)),hx⟩,⟨hi,(fun i l hl o ho=>hin i l hl o (by simp only[jr,List.mem_append];exact .inr ho)),hy⟩⟩
  ·cases hs
theorem iX{s:SC}{Q':Exit→KH}(hc:wK r P N rs vs s Q e h)(hq:∀ x e h,Q x e h→Q' x e h):wK r P N rs vs s Q' e h:=fun c hs=>pE (hc c hs) hq
theorem Cj(hq:Q .normal e h):wK r P N rs vs .skip Q e h:=fun c hs=>by have:=fp hs;dsimp only at this;subst this;exact zS hq
theorem E6{l:Nat}(hq:Q .normal e h):wK r P N rs vs (.lab l) Q e h:=fun c hs=>by have:=fp hs;dsimp only at this;subst this;exact wz hq
theorem Ej{id:Nat}(hq:Q (.exit id) e h):wK r P N rs vs (.exit id) Q e h:=fun c hs=>by have:=fp hs;dsimp only at this;subst this;exact zt hq
theorem E3(hq:Q .ret e h):wK r P N rs vs .ret Q e h:=fun c hs=>by have:=fp hs;dsimp only at this;subst this;exact CQ hq
theorem E8{x y:SC}(hx:∀ K:KH,(∀ e h,wK r P N rs vs y Q e h→K e h)→wK r P N rs vs x (fl K Q) e h):wK r P N rs vs (.seq x y) Q e h:=fun c hs=>by
 obtain⟨cx,cy,rfl,h1,h2⟩:=fp hs;exact Cx (pE (hx (wK r P N rs vs y Q) KO cx h1) fun ex e h hq=>by cases ex <;> first | exact hq _ h2 | exact hq)
theorem E5(hN:N≤99999){l:Ku}(hk:eb P l e h fun e h=>Q .normal e h):wK r P N rs vs (.reg false l) Q e h:=fun c hs=>by
 obtain⟨id,ops,rfl,h1,h2⟩:=fp hs;exact pE (uS (Q:=Q) (K:=fun e h=>Q .normal e h) hN h1 hk) fun ex e h hq=>by cases ex <;> exact hq
theorem CF(hN:N≤99999){l:Ku}(hk:ez P l e h fun e=>Q .normal e h):wK r P N rs vs (.reg true l) Q e h:=fun c hs=>by
 obtain⟨id,ops,rfl,h1,h2⟩:=fp hs;obtain⟨h3,h4,h5⟩:=h2 rfl;exact sO h3 h4 h5 hN h1 hk
theorem Fj(hN:N≤99999){l1 l2:Ku}(hk:ez P l1 e h fun e=>eb P l2 e h fun e h=>Q .normal e h):wK r P N rs vs (.rgT l1 l2) Q e h:=fun c hs=>by
 obtain⟨id,ops,l,n,rfl,h1,⟨h2,h3,h4⟩,rfl,rfl⟩:=fp hs;exact sD n h2 h3 h4 hN h1 hk
theorem FK(hN:N≤99999){l:List (Bool × SI)}(L1:Kw)(hL:L1.Sublist h.L)(hk:ew P ⟨h.G,L1,h.D⟩ l e h fun e h=>Q .normal e h):wK r P N rs vs (.rgX l) Q e h:=fun c hs=>by
 obtain⟨id,ops,rfl,⟨h1,h2⟩,σ,ol,sl,q1,q2,q3,q4,q5,q6,q7,rfl⟩:=fp hs;exact sj σ L1 hL h1 q1 h2 q2 q3 q4 q5 hN q6 q7 hk
theorem E2(hN:N≤99999){l:List (Bool × SI)}{l2:Ku}(L1:Kw)(hL:L1.Sublist h.L)(hk:ew P ⟨h.G,L1,h.D⟩ l e h fun e h=>eb P l2 e h fun e h=>Q .normal e h):wK r P N rs vs (.rgY l l2) Q e h:=fun c hs=>by
 obtain⟨id,ops,rfl,⟨h1,h2⟩,n,σ,ol,sl,⟨q1,q2⟩,⟨s1,s2,s3⟩,q3,q4,q5,q6,q7,rfl,rfl⟩:=fp hs;exact sb n σ L1 hL h1 q1 h2 q2 s1 s2 s3 q3 q4 q5 hN q6 q7 hk
theorem Ft(hN:N≤99999){t:RX}(L1:Kw)(hL:L1.Sublist h.L)(hk:iC P ⟨h.G,L1,h.D⟩ t e h fun e h=>Q .normal e h):wK r P N rs vs (.rgZ t) Q e h:=fun c hs=>by
 obtain⟨id,ops,rfl,⟨h1,h2⟩,σ,q1,q2,q3,q4,q5⟩:=fp hs;exact r8 σ L1 hL h1 q1 h2 q2 q3 q4 hN q5 hk
theorem FG(hN:N≤99999){l:List WI}(L1:Kw)(hL:L1.Sublist h.L)(hk:eH P ⟨h.G,L1,h.D⟩ l e h fun e h=>Q .normal e h):wK r P N rs vs (.rgW l) Q e h:=fun c hs=>by
 obtain⟨id,ops,rfl,⟨h1,h2⟩,F,rd,σ,ol,sl,q1,q2,q3,q4,q5,q6,q7,rfl⟩:=fp hs;exact sU σ L1 hL h1 q1 h2 q2 q3 q4 q5 hN q6 q7 hk
theorem DK{o:O}{x y:SC}{t:Bool}(ht:ev e o=.bool t)(hx:t=true→wK r P N rs vs x Q e h)(hy:t=false→wK r P N rs vs y Q e h):wK r P N rs vs (.cond o x y) Q e h:=fun c hs=>by
 obtain⟨co,cx,cy,rfl,h0,h1,h2⟩:=fp hs;refine Ar h0 ht ?_;cases t
 ·exact hy rfl _ h2
 ·exact hx rfl _ h1
theorem Gs{id:Nat}{x:SC}(hx:wK r P N rs vs x (Ez id Q) e h):wK r P N rs vs (.blk id x) Q e h:=fun c hs=>by
 obtain⟨cx,rfl,h1⟩:=fp hs;exact yq (hx _ h1)
theorem C2{x:SC}(I:KH)(μ:Env→H→Nat)(h0:I e h)(round:∀ e h,I e h→wK r P N rs vs x (fl (fun e' h'=>I e' h'∧μ e' h' < μ e h) Q) e h):wK r P N rs vs (.loop x) Q e h:=fun c hs=>by
 obtain⟨cx,rfl,h1⟩:=fp hs;exact za I μ h0 fun e h hi=>round e h hi _ h1
def JC(Q:Exit→KH):Exit→KH
 | .goto _,_,_=>False
 | x,e,h=>Q x e h
theorem F2{x:SC}(hx:wK none P N rs vs x (JC Q) e h):wK none P N rs vs (.scp x) Q e h:=fun c hs=>by
 obtain⟨cx,rfl,hcx⟩:=fp hs;intro β a w hr hw;refine wpIn_wide.2 (wp_scope_straight (wpIn_wide.1 (wpIn_mono (hx cx hcx β a w hr hw) ?_)));rintro y a' w' ⟨β',e',h',q1,q2,q3,q4⟩;cases y <;> first | exact⟨β',e',h',q1,q2,q3,q4⟩ | exact q4.elim
def jf(h h':H):Prop:=∀ β w,Sat β h w→Sat β h' w∧Step β h w β h' w∧(h'.D=h.D∧il h' h)
theorem yD{c:Code}{h':H}(hg:jf h h')(hc:wpH r P N rs vs c Q e h'):wpH r P N rs vs c Q e h:=by
 intro β a w hr hs;obtain⟨g1,g2,g3,g4⟩:=hg β w hs;refine wpIn_mono (hc β a w (hr.to g4 g3) g1) ?_;rintro x a' w' ⟨β',e',h',r',s',st',q⟩;exact⟨β',e',h',r',s',g2.trans st',q⟩
theorem Ag{s:SC}{h':H}(hg:jf h h')(hc:wK r P N rs vs s Q e h'):wK r P N rs vs s Q e h:=fun c hs=>yD hg (hc c hs)
theorem jf.trans{a b c:H}(h1:jf a b)(h2:jf b c):jf a c:=fun β w hs=>by
 obtain⟨a1,a2,a3,a4⟩:=h1 β w hs;obtain⟨b1,b2,b3,b4⟩:=h2 β w a1;exact⟨b1,a2.trans b2,b3.trans a3,a4.trans b4⟩
theorem jf.refl(a:H):jf a a:=fun _ _ hs=>⟨hs,.refl _ _ _,rfl,.refl a⟩
theorem dX{G:Ks}{L L':Kw}{D:KF}(hs:L'.Sublist L):jf ⟨G,L,D⟩ ⟨G,L',D⟩:=fun _ _ hw=>by
 obtain⟨a,b⟩:=xG hw hs;exact⟨a,b,rfl,fun s cs h=>⟨cs,hs.subset h⟩⟩
theorem eO{G:Ks}{L L':Kw}{D:KF}(hs:L.Perm L'):jf ⟨G,L,D⟩ ⟨G,L',D⟩:=fun _ _ hw=>by
 obtain⟨a,b⟩:=pZ hw hs;exact⟨a,b,rfl,fun s cs h=>⟨cs,hs.symm.subset h⟩⟩
theorem eA{G:Ks}{L:Kw}{D:KF}(A:Ky)(et:TypeId)(sz:Nat):jf ⟨G,L,D⟩ ⟨G,.row (.slice A 0 0) et sz 0 [] :: L,D⟩:=fun β w hw=>by
 obtain⟨a,b⟩:=lj (it:=.row (.slice A 0 0) et sz 0 []) hw rfl rfl rfl (Nat.le_refl _) (fun _ _=>rfl) ⟨by simp,.inl ⟨A,rfl,rfl⟩⟩ (fun b hb=>by cases A <;> simp[Item.block,fh]at hb);refine⟨a,b,rfl,fun s cs h=>?_⟩;rcases List.mem_cons.1 h with h | h
 ·cases h
 ·exact⟨cs,h⟩
end rules
inductive RS where
 | t (n:Nat)
 | r (s:Nat) (n:KI)
 | c (s:Nat) (n:KI)
def fF(P:Program)(N:Nat)(rs vs:KF):List ResultVar→Option (List RS)
 | []=>some []
 | .tmp n :: l=>if n < N∧vs.contains n=false then(fF P N rs vs l).map (.t n :: ·)else none
 | .cell s t :: l=>if rs.contains s=true then(vo P t).bind fun n=>(fF P N rs vs l).map (.r s n :: ·)else if s < N∧vs.contains s=false then(vo P t).bind fun n=>(fF P N rs vs l).map (.c s n :: ·)else none
def getB(b:Nat):Kw→Option (Kt)
 | []=>none
 | .blk b' cs :: L=>if b'=b then some cs else getB b L
 | _ :: L=>getB b L
def vg:Value→KI
 | .pointer (some ⟨b,0,none⟩)=>some b
 | _=>none
def mR(e:Env)(h:H):List RS→Option (Kt)
 | []=>some []
 | .t n :: l=>(mR e h l).map (e n :: ·)
 | .r s n :: l=>(getR s h.L).bind fun cs=>(ldC cs 0 n).bind fun v=>(mR e h l).map (v :: ·)
 | .c s n :: l=>(vg (e s)).bind fun b=>(getB b h.L).bind fun cs=>(ldC cs 0 n).bind fun v=>(mR e h l).map (v :: ·)
def tt:Kt→Value
 | [v]=>v
 | l=>.tuple l.toArray
abbrev KB:=List RS
end Go.Kx
namespace Go.Kx
open Go Go.RowKit
open List (getElem?_eq_getElem mem_of_getElem? length_append append_nil take_length)
section entry
variable {P:Program} {N:Nat} {rs vs:KF} {β:Nat→Nat} {a:Act} {w:World} {e:Env} {h:H}
theorem lN{b:Nat}{cs:Kt}:∀ {L:Kw},getB b L=some cs→Item.blk b cs∈L
 | .blk b' c :: L,h=>by
  simp only[getB]at h;split at h
  ·rename_i he;subst he;cases h;exact .head _
  ·exact .tail _ (lN h)
 | .reg _ _ :: L,h=>.tail _ (lN (L:=L) h)
 | .row _ _ _ _ _ :: L,h=>.tail _ (lN (L:=L) h)
 | .obj _ _ :: L,h=>.tail _ (lN (L:=L) h)
theorem Ec{v:Value}{b:Nat}(h:vg v=some b):v=.pointer (some ⟨b,0,none⟩):=by
 unfold vg at h;split at h
 ·cases h;rfl
 ·cases h
theorem wN{P:Program}{w:World}{b:Nat}{cs:Kt}{te t:TypeId}{n:KI}{v:Value}(hn:vo P t=some n)(hte:w.heap[b]?=some (.cells cs.toArray te (0,0)))(hv:ldC cs 0 n=some v):(loadVar t ⟨b,0,none⟩).run P w=.ok v w:=by
 have hld:(Instr.loadAt t (.pointer (some ⟨b,0,none⟩))).run P w=.ok v w:=by
  have hsat:Sat (fun _=>0) ⟨fun _=>none,[.blk b cs],[]⟩ w:=⟨fun _ _ h=>(by cases h),fun it hit=>(by simp at hit;subst hit;exact⟨te,hte⟩),by simp[dom,Item.block],fun _ _=>rfl,fun _ h=>(by cases h)⟩;refine im hsat hn ?_;cases n with
  | none=>exact⟨_,rfl,.blk (cs:=cs) (by simp) (by simpa [ldC]using hv)⟩
  | some k =>
   simp only[ldC]at hv;split at hv
   ·rename_i hle;cases hv;refine⟨_,_,rfl,rfl,by simp;omega,fun j u hu=>?_⟩;rw[add_lit];refine .blk (cs:=cs) (by simp) ?_;simp only[List.getElem?_take,List.getElem?_drop]at hu;split at hu
    ·exact hu
    ·cases hu
   ·cases hv
 simpa [Instr.loadAt,Instr.sureAddr]using hld
def EA(tmps:Array Value):ResultVar→Sem Value
 | .tmp t=>pure (tmps.getD t undef)
 | .cell p t=>do loadVar t (← asAddr (tmps.getD p undef))
theorem nn{ro:KI}(hr:Rel ro N rs vs β a e h)(hw:Sat β ⟨h.G,h.L,[]⟩ w):∀ (l:List ResultVar) (rl:KB) (out:Kt),fF P N rs vs l=some rl→mR e h rl=some out →
  (l.mapM (EA a.tmps)).run P w=.ok out w
 | [],rl,out,h1,h2=>by
  simp only[fF,Option.some.injEq]at h1;subst h1;simp only[mR,Option.some.injEq]at h2;subst h2;simp
 | .tmp n :: l,rl,out,h1,h2=>by
  simp only[fF]at h1;split at h1
  ·rename_i hn;simp only[Option.map_eq_some_iff]at h1;obtain⟨rl',h1,rfl⟩:=h1;simp only[mR,Option.map_eq_some_iff]at h2;obtain⟨out',h2,rfl⟩:=h2;have ih:=nn hr hw l rl' out' h1 h2;have he:=hr.env n hn.1 (by simpa using hn.2);simp only[List.mapM_cons,EA,Sem.run_bind,Sem.run_pure,Result.andThen_ok,he];rw[ih];rfl
  ·cases h1
 | .cell s t :: l,rl,out,h1,h2=>by
  simp only[fF]at h1;split at h1
  ·simp only[Option.bind_eq_some_iff,Option.map_eq_some_iff]at h1;obtain⟨n,hn,rl',h1,rfl⟩:=h1;simp only[mR,Option.bind_eq_some_iff,Option.map_eq_some_iff]at h2;obtain⟨cs,hcs,v,hv,out',h2,rfl⟩:=h2;have ih:=nn hr hw l rl' out' h1 h2;have hreg:=(hr.reg s cs (gO hcs)).2.2;obtain⟨te,hte⟩:=hw.l _ (gO hcs);have hld':=wN hn hte hv
   simp only[List.mapM_cons,EA,Sem.run_bind,hreg,asAddr,Sem.run_pure,Result.andThen_ok,hld'];rw[ih];rfl
  ·split at h1
   ·rename_i hsN;simp only[Option.bind_eq_some_iff,Option.map_eq_some_iff]at h1;obtain⟨n,hn,rl',h1,rfl⟩:=h1;simp only[mR,Option.bind_eq_some_iff,Option.map_eq_some_iff]at h2;obtain⟨b,hb,cs,hcs,v,hv,out',h2,rfl⟩:=h2;have ih:=nn hr hw l rl' out' h1 h2;have he:=hr.env s hsN.1 (by simpa using hsN.2);have hes:=Ec hb;rw[hes]at he;obtain⟨te,hte⟩:=hw.l _ (lN hcs);have hld':=wN hn hte hv
    simp only[List.mapM_cons,EA,Sem.run_bind,he,asAddr,Sem.run_pure,Result.andThen_ok,hld'];rw[ih];rfl
   ·cases h1
theorem rM{fn:Func}{ro:KI}(hr:Rel ro N rs vs β a e h)(hw:Sat β ⟨h.G,h.L,[]⟩ w){rl:KB}{out:Kt}(h1:fF P N rs vs fn.results.toList=some rl)(h2:mR e h rl=some out):(results fn a.tmps).run P w=.ok (tt out) w:=by
 have h3:=nn (P:=P) hr hw fn.results.toList rl out h1 h2;have h4:(fn.results.mapM (EA a.tmps)).run P w=.ok out.toArray w:=by
  rw[Array.mapM_eq_mapM_toList];simp only[Sem.run_map,h3,Result.andThen_ok]
 have h5:results fn a.tmps=(fn.results.mapM (EA a.tmps) >>= fun vs=>pure (if h:vs.size=1 then vs[0]else .tuple vs)):=rfl;rw[h5];simp only[Sem.run_bind,h4,Result.andThen_ok,Sem.run_pure,tt]
 match out with
 | []=>rfl
 | [v]=>rfl
 | v :: u :: l=>simp
theorem mS{fn:Func}{tmps:Array Value}{R:Ending→World→Prop}:∀ (D:KF) (w:World),D.Nodup→(∀ b∈D,w.heap[b]?=some (.deferred (some []))) →
  (∀ w':World,w'.os=w.os→w'.tape=w.tape→w'.output=w.output→w'.heap.size=w.heap.size→(∀ b,b∉D→w'.heap[b]?=w.heap[b]?)→∃ v,(results fn tmps).run P w'=.ok v w'∧R (.returned v) w') →
  LeavesInM (Fr none) 0 P fn tmps R (D.map fun b=>{ target:=.collected b,args:=#[] }) .returning w
 | [],w,_,_,hr=>by
  obtain⟨v,h1,h2⟩:=hr w rfl rfl rfl rfl (fun _ _=>rfl);exact⟨v,h1,h2⟩
 | b :: D,w,hnd,hD,hr=>by
  have hb:=hD b (by simp);have hlt:=(Array.getElem?_eq_some_iff.1 hb).1;have hnd':=List.nodup_cons.1 hnd;have hput:∀ i,i≠b→(w.putObj b (.deferred none)).heap[i]?=w.heap[i]?:=fun i hi=>World.putObj_heap_other (by omega)
  refine⟨by simp,.inl ⟨b,w.putObj b (.deferred none),rfl,run_takeDeferred hb,?_⟩⟩;refine mS D _ hnd'.2 (fun i hi=>by rw[hput i (fun he=>hnd'.1 (he ▸ hi))];exact hD i (by simp[hi])) fun w' e1 e2 e3 e4 e5=>?_
  refine hr w' e1 e2 e3 (by rw[e4];simp[World.putObj]) fun i hi=>?_
  rw[e5 i (fun hm=>hi (by simp[hm])),hput i (fun he=>hi (by simp[he]))]
def eC(L:Kw):Prop:=∀ s cs,Item.reg s cs∉L
def fI(rl:KB)(R:Value→H→Prop):Exit→KH
 | .normal,e,h | .ret,e,h=>∃ out,mR e h rl=some out∧∃ h',jf ⟨h.G,h.L,[]⟩ h'∧eC h'.L∧R (tt out) h'
 | _,_,_=>False
def oq(args:Array Value):Env:=fun i=>args.getD i undef
theorem jJ{β β':Nat→Nat}:∀ {L:Kw},eC L→dom β L=dom β' L
 | [],_=>rfl
 | it :: L,h=>by
  rw[gA,gA,jJ (fun s cs hm=>h s cs (by simp[hm]):eC L)];congr 2;cases it with
  | reg s cs=>exact absurd (by simp) (h s cs)
  | blk b cs=>rfl
  | row v e sz n xs=>rfl
  | obj b o=>rfl
theorem nA{β β':Nat→Nat}{it:Item}(hn:∀ s cs,it≠.reg s cs)(h:it.ok β w):it.ok β' w:=by
 cases it with
 | reg s cs=>exact absurd rfl (hn s cs)
 | blk b cs=>exact h
 | row v e sz n xs=>exact h
 | obj b o=>exact h
theorem yt{f:FuncId}{fn:Func}{c:Code}{s:SC}{rl:KB}{args:Array Value}{G:Ks}{L1:Kw}{R:Value→H→Prop}(hf:P.funcs[f]?=some fn)(hb:fn.body=some c)(hE:iy P f)(hs:jD P fn.ntmps rs vs c s)
  (hrl:fF P fn.ntmps rs vs fn.results.toList=some rl) (hargs:args.size≤fn.ntmps) (hL1:eC L1) (hbody:wK none P fn.ntmps rs vs s (fI rl R) (oq args) ⟨G,L1,[]⟩) (L2:Kw) (D:KF) :
  eS P f args ⟨G,L1++L2,D⟩ fun v h'=>∃ G' L',h'=⟨G',L'++L2,D⟩∧eC L'∧R v ⟨G',L',[]⟩:=by
 refine⟨hE,fun β w hw=>?_⟩;have hnd0:=List.nodup_append.1 hw.nd;have hndL:=hnd0.1;rw[eD]at hndL;have hndL':=List.nodup_append.1 hndL;have hw1:Sat β ⟨G,L1,[]⟩ w:=⟨hw.g,fun it h=>hw.l it (by simp[h]),by simpa using hndL'.1,fun b hb=>hw.df b (by rw[eD];simp only[append_nil]at hb;simp[hb]),fun _ h=>by cases h⟩
 have hr1:Rel none fn.ntmps rs vs β { tmps:=args++Array.replicate (fn.ntmps - args.size) undef,defers:=[] } (oq args) ⟨G,L1,[]⟩:=by
  refine⟨by simp;omega,fun i hi _=>?_,fun s cs hs=>absurd hs (hL1 s cs),by simp⟩;simp only[oq,Array.getD_eq_getD_getElem?,Array.getElem?_append,Array.getElem?_replicate];split
  ·rfl
  ·rename_i hlt;rw[if_pos (by omega),Array.getElem?_eq_none (by omega)];rfl
 have hcall:CallsIn (Fr none) 0 P f args w fun x w'=>∃ v h',x=.returned v∧(h'.D=D∧il h' ⟨G,L1++L2,D⟩)∧Sat β h' w'∧Step β ⟨G,L1++L2,D⟩ w β h' w'∧∃ G' L',h'=⟨G',L'++L2,D⟩∧eC L'∧R v ⟨G',L',[]⟩:=by
  refine callsIn_of_wp_marks hf hb trivial (wpIn_mono (hbody c hs β _ w hr1 hw1) ?_);have fin:∀ (a':Act) (w':World) (β':Nat→Nat) (e':Env) (h':H),Rel none fn.ntmps rs vs β' a' e' h'→Sat β' h' w'→Step β ⟨G,L1,[]⟩ w β' h' w'→(∃ out,mR e' h' rl=some out∧∃ h'',jf ⟨h'.G,h'.L,[]⟩ h''∧eC h''.L∧R (tt out) h'') →
    LeavesInM (Fr none) 0 P fn a'.tmps (fun x w'=>∃ v h',x=.returned v∧(h'.D=D∧il h' ⟨G,L1++L2,D⟩)∧Sat β h' w'∧Step β ⟨G,L1++L2,D⟩ w β h' w'∧∃ G' L',h'=⟨G',L'++L2,D⟩∧eC L'∧R v ⟨G',L',[]⟩) a'.defers .returning w':=by
   rintro a' w' β' e' h' hr' hw' st' ⟨out,hout,h2,hgh,hnr,hR⟩;have hdf:=hr'.dfr;simp only[Option.isSome_none,Bool.false_eq_true,if_false]at hdf;rw[hdf];have hndd:=List.nodup_append.1 hw'.nd;refine mS h'.D w' hndd.2.1 hw'.d fun w3 e1 e2 e3 e4 e5=>?_
   obtain⟨l,hl,hlb⟩:=st'.dn;simp only[append_nil]at hl;have hDge:∀ b∈h'.D,w.heap.size≤b:=fun b hb=>hlb b (by rw[← hl];exact hb)
   have hs3:Sat β' ⟨h'.G,h'.L,[]⟩ w3:=by
    refine⟨fun b o hb=>?_,fun it hit=>?_,by simpa using hndd.1,fun b hb=>hw'.df b (by simp only[append_nil]at hb;exact List.mem_append_left _ hb),fun _ h=>by cases h⟩
    ·rw[e5 b (fun hm=>by have:=hw'.df b (List.mem_append_right _ hm);rw[this]at hb;cases hb)];exact hw'.g b o hb
    ·exact Item.ok_of (hw'.l it hit) (fun b hb=>e5 b (fun hm=>hndd.2.2 b (List.mem_filterMap.2 ⟨it,hit,hb⟩) b hm rfl)) rfl
   have hst3:Step β ⟨G,L1,[]⟩ w β' ⟨h'.G,h'.L,[]⟩ w3:=by
    refine⟨e1.trans st'.os,e2.trans st'.tape,e3.trans st'.output,by rw[e4];exact st'.size,fun b hb hn=>?_,st'.gm,st'.gn,st'.ln,[],rfl,by simp⟩;rw[e5 b (fun hm=>by have:=hDge b hm;omega)];exact st'.old b hb hn
   obtain⟨g1,g2,g3,g4⟩:=hgh β' w3 hs3;have hst:=hst3.trans g2;obtain⟨G2,L',D2⟩:=h2;have hD2:D2=[]:=g3;subst hD2;have hd':dom β' L'=dom β L':=jJ hnr;refine⟨tt out,rM hr' hs3 hrl hout,tt out,⟨G2,L'++L2,D⟩,rfl,⟨rfl,?_⟩,?_,?_,G2,L',rfl,hnr,hR⟩
   ·intro s cs hs;rcases List.mem_append.1 hs with h | h
    ·exact absurd h (hnr s cs)
    ·exact⟨cs,by simp[h]⟩
   ·-- what is owned holds
    have hlt2:∀ b,b∈dom β L2∨b∈D→b < w.heap.size:=fun b hb=>by
     rcases hb with hb | hb
     ·exact hw.dom_lt (by rw[eD];simp[hb])
     ·exact hw.d_lt hb
    have hnew:∀ b,b∈dom β L'→b∈dom β L1∨w.heap.size≤b:=fun b hb=>hst.ln b (by rw[hd'];exact hb)
    have hn1:∀ b,b∈dom β L2∨b∈D→b∉dom β L1:=fun b hb hm=>by
     rcases hb with hb | hb
     ·exact hndL'.2.2 b hm b hb rfl
     ·exact hnd0.2.2 b (by rw[eD];simp[hm]) b hb rfl
    have hkeep:∀ b,b∈dom β L2∨b∈D→w3.heap[b]?=w.heap[b]?:=fun b hb=>hst.old b (hlt2 b hb) (hn1 b hb)
    have hsep:∀ b,b∈dom β L'→¬ (b∈dom β L2∨b∈D):=fun b hb hc=>by
     rcases hnew b hb with h | h
     ·exact hn1 b hc h
     ·have:=hlt2 b hc;omega
    refine⟨g1.g,fun it hit=>?_,?_,fun b hb=>?_,fun b hb=>?_⟩
    ·rcases List.mem_append.1 hit with h | h
     ·exact nA (fun s cs he=>hnr s cs (he ▸ h)) (g1.l it h)
     ·exact Item.ok_of (hw.l it (by simp[h])) (fun b hb=>hkeep b (.inl (List.mem_filterMap.2 ⟨it,h,hb⟩))) rfl
    ·rw[eD,List.append_assoc];refine List.nodup_append.2 ⟨by rw[← hd'];exact g1.nd',List.nodup_append.2 ⟨hndL'.2.1,hnd0.2.1,fun b hb c hc=>hnd0.2.2 b (by rw[eD];simp[hb]) c hc⟩,fun b hb c hc he=>?_⟩;subst he;exact hsep b hb (List.mem_append.1 hc)
    ·rw[eD,List.append_assoc]at hb;rcases List.mem_append.1 hb with hb | hb
     ·exact g1.df b (by rw[append_nil,hd'];exact hb)
     ·have hb':=List.mem_append.1 hb;have h0:G b=none:=hw.df b (by rw[eD,List.append_assoc];exact List.mem_append_right _ hb);cases hg:G2 b with
      | none=>exact hg
      | some o =>
       rcases hst.gn b h0 (by show G2 b≠none;rw[hg];simp)with h | h
       ·have:=hlt2 b hb';omega
       ·exact absurd h (hn1 b hb')
    ·rw[hkeep b (.inr hb)];exact hw.d b hb
   ·refine⟨hst.os,hst.tape,hst.output,hst.size,fun b hb hn=>hst.old b hb (fun hm=>hn (by rw[eD];simp[hm])),hst.gm,fun b h0 h1=>?_,fun b hb=>?_,[],rfl,by simp⟩
    ·rcases hst.gn b h0 h1 with h | h
     ·exact .inl h
     ·exact .inr (by rw[eD];simp only[List.mem_append];exact .inl h)
    ·rw[eD]at hb ⊢;rcases List.mem_append.1 hb with hb | hb
     ·rcases hst.ln b (by rw[hd'];exact hb)with h | h
      ·exact .inl (List.mem_append_left _ h)
      ·exact .inr h
     ·exact .inl (List.mem_append_right _ hb)
  rintro x a' w' ⟨β',e',h',r',s',st',q⟩;cases x with
  | normal=>exact fin a' w' β' e' h' r' s' st' q
  | ret=>exact fin a' w' β' e' h' r' s' st' q
  | exit id=>exact q.elim
  | goto l=>exact q.elim
  | panic ch=>exact q.elim
  | outgrown=>exact q.elim
 exact callsIn_wide.1 hcall
end entry
end Go.Kx

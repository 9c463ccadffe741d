/- Parts of a proof, 11 texts in one file. No condition. -/
import Derived.Below
import Derived.Deep.Slices
import Derived.Deep.Fields
import Derived.ChangeSame
import Derived.RangeFuncIn
import Derived.KernelRfl
import Derived.Test.YtpmofpekcbghnaaGreatM1
set_option linter.unusedSimpArgs false
set_option linter.unusedVariables false
namespace Go.Kx
open Go Go.RowKit
open List (getElem?_eq_getElem mem_of_getElem? length_append append_nil append_assoc length_cons take_length)
def Gle(G G':J5):Prop:=∀ b o,G b=some o→G' b=some o
theorem Gle.refl(G:J5):Gle G G:=Kp
theorem Gle.trans{A B C:J5}(h1:Gle A B)(h2:Gle B C):Gle A C:=fun b o h=>h2 b o (h1 b o h)
def FnS(P:Program)(f:FuncId)(args:Array Value)(G:J5)(v:Value):Prop :=
 ∀ L D,eh P f args ⟨G,L,D⟩ fun r h'=>r=v∧h'=⟨G,L,D⟩
def FnE(P:Program)(f:FuncId)(args:Array Value)(G:J5)(R:Value→Prop):Prop :=
 ∀ L D,eh P f args ⟨G,L,D⟩ fun r h'=>R r∧h'=⟨G,L,D⟩
def FnD(P:Program)(f:FuncId)(args:Array Value)(G:J5)(R:(J5)→Value→Prop):Prop :=
 ∀ L D,eh P f args ⟨G,L,D⟩ fun r h'=>∃ G',h'=⟨G',L,D⟩∧Gle G G'∧R G' r
def FnO(P:Program)(f:FuncId)(args:Array Value)(G:J5)(L1:J9)(R:(J5)→J9→Value→Prop):Prop :=
 ∀ L D,eh P f args ⟨G,L1++L,D⟩ fun r h'=>∃ G' L',h'=⟨G',L'++L,D⟩∧Gle G G'∧R G' L' r
theorem ku{β G G' L L' D w}(hs:Sat β ⟨G',L',D⟩ w)(hg:Gle G G')(hL:L.Sublist L'):Sat β ⟨G,L,D⟩ w:=by
 have hd:(dom β L++D).Sublist (dom β L'++D):=(hL.filterMap _).append Kl;refine⟨fun b o h=>hs.g b o (hg b o h),fun it h=>hs.l it (hL.subset h),hd.nodup hs.nd,fun b hb=>?_,hs.d⟩;have h0:=hs.df b (hd.subset hb);cases hgb:G b with
 | none=>exact hgb
 | some o=>have:=hg b o hgb;dsimp only at h0;rw[h0]at this;cases this
theorem jL{P f args G L D}{R:Value→H→Prop}{R':Value→H→Prop}(hc:eh P f args ⟨G,L,D⟩ R)
  (hr:∀ v h',R v h'→Gle G h'.G→∃ G2 L2,Gle G2 h'.G∧Gle G G2∧L2.Sublist h'.L∧R' v ⟨G2,L2,D⟩):eh P f args ⟨G,L,D⟩ R':=by
 refine⟨hc.1,fun β w hw=>(hc.2 β w hw).mono ?_⟩;rintro x w' ⟨v,h',rfl,⟨hD,hR⟩,hs,st,hrr⟩;obtain⟨G',L',D'⟩:=h';dsimp only at hD;subst hD;obtain⟨G2,L2,g1,g2,g3,g4⟩:=hr v _ hrr st.gm;have hdm:(dom β L2).Sublist (dom β L'):=g3.filterMap _
 refine⟨v,⟨G2,L2,D'⟩,rfl,⟨rfl,fun s cs h=>hR s cs (g3.subset h)⟩,ku hs g1 g3,⟨st.os,st.tape,st.output,st.size,st.old,g2,fun b h0 h1=>st.gn b h0 ?_,fun b hb=>st.ln b (hdm.subset hb),[],rfl,by simp⟩,g4⟩;cases h2:G2 b with
 | none=>exact absurd h2 h1
 | some o=>have h9:G' b=some o:=g1 b o h2;show G' b≠none;rw[h9];simp
section forms
variable {P:Program} {f:FuncId} {fn:Func} {c:Code} {rs vs:Kh} {s:SC} {rl:Kd} {args:Array Value} {G:J5}
structure Fun (P:Program) (f:FuncId) (N:Nat) (V:Kb) (s:SC) (rl:Kd):Prop where
 ok:∃ fn c,P.funcs[f]?=some fn∧fn.body=some c∧fn.ntmps=N∧jz P N V.1 V.2 c s∧fG P N V.1 V.2 fn.results.toList=some rl∧gX P f
theorem Fun.mk' {V : Kb} {N : Nat} (hf : P.funcs[f]? = some fn) (hN : fn.ntmps = N) (hn : (fn.name == "runtime.NumGoroutine") = false) (hb : fn.body.isNone = false) (hs : gZ P fn.ntmps V.1 V.2 (fn.body.getD .skip) = some s) (hr : fG P fn.ntmps V.1 V.2 fn.results.toList = some rl) : Fun P f N V s rl := by
 cases hc:fn.body with
 | none=>rw[hc]at hb;cases hb
 | some c=>exact⟨fn,c,hf,hc,hN,by rw[← hN];exact .of (by simpa [hc]using hs),by rw[← hN];exact hr,enters_of hf hn hb⟩
theorem Fun.mkH {V : Kb} {N : Nat} (hf : P.funcs[f]? = some fn) (hN : fn.ntmps = N) (hn : (fn.name == "runtime.NumGoroutine") = false) (hb : fn.body.isNone = false) (hs : jz P fn.ntmps V.1 V.2 (fn.body.getD .skip) s) (hr : fG P fn.ntmps V.1 V.2 fn.results.toList = some rl) : Fun P f N V s rl := by
 cases hc:fn.body with
 | none=>rw[hc]at hb;cases hb
 | some c=>exact⟨fn,c,hf,hc,hN,by rw[← hN];simpa [hc]using hs,by rw[← hN];exact hr,enters_of hf hn hb⟩
theorem Fun.calls{N:Nat}{V:Kb}{L1:J9}{R:Value→H→Prop}(hf:Fun P f N V s rl)(ha:args.size≤N)(hL1:dR L1)(hb:wK none P N V.1 V.2 s (gl rl R) (nJ args) ⟨G,L1,[]⟩)(L2:J9)(D:Kh):
  eh P f args ⟨G,L1++L2,D⟩ fun v h'=>∃ G' L',h'=⟨G',L'++L2,D⟩∧dR L'∧R v ⟨G',L',[]⟩:=by
 obtain⟨fn,c,h1,h2,h3,h4,h5,h6⟩:=hf.ok;subst h3;exact wc h1 h2 h6 h4 h5 ha hL1 hb L2 D
theorem dw:dR []:=fun _ _ h=>by cases h
theorem Fun.fnE{N:Nat}{V:Kb}{R:Value→Prop}(hf:Fun P f N V s rl)(ha:args.size≤N)(hb:wK none P N V.1 V.2 s (gl rl fun v _=>R v) (nJ args) ⟨G,[],[]⟩):FnE P f args G R:=fun L D =>
 jL (hf.calls ha dw hb L D) fun v h' ⟨G',L',he,_,hr⟩ hg=>⟨G,L,hg,.refl G,by subst he;exact List.sublist_append_right _ _,hr,rfl⟩
theorem Fun.fnS{N:Nat}{V:Kb}{v0:Value}(hf:Fun P f N V s rl)(ha:args.size≤N)(hb:wK none P N V.1 V.2 s (gl rl fun v _=>v=v0) (nJ args) ⟨G,[],[]⟩):FnS P f args G v0:=hf.fnE ha hb
theorem Fun.fnD{N:Nat}{V:Kb}{R:(J5)→Value→Prop}(hf:Fun P f N V s rl)(ha:args.size≤N)(hb:wK none P N V.1 V.2 s (gl rl fun v h=>R h.G v) (nJ args) ⟨G,[],[]⟩):FnD P f args G R:=fun L D =>
 jL (hf.calls ha dw hb L D) fun v h' ⟨G',L',he,_,hr⟩ hg=>⟨G',L,by subst he;exact .refl _,by subst he;exact hg,by subst he;exact List.sublist_append_right _ _,G',rfl,by subst he;exact hg,hr⟩
theorem Fun.fnO{N:Nat}{V:Kb}{L1:J9}{R:(J5)→J9→Value→Prop}(hf:Fun P f N V s rl)(ha:args.size≤N)(hL1:dR L1)(hb:wK none P N V.1 V.2 s (gl rl fun v h=>R h.G h.L v) (nJ args) ⟨G,L1,[]⟩):FnO P f args G L1 R:=fun L D =>
 jL (hf.calls ha hL1 hb L D) fun v h' ⟨G',L',he,_,hr⟩ hg=>⟨G',L'++L,by subst he;exact .refl _,by subst he;exact hg,by subst he;exact .refl _,G',L',rfl,by subst he;exact hg,hr⟩
theorem jS{e:Env}{h:H}{R:Value→H→Prop}{out:J6}(hr:mc e h rl=some out)(hv:R (sZ out) ⟨h.G,[],[]⟩):gl rl R .ret e h :=
 ⟨out,hr,⟨h.G,[],[]⟩,dE Km,dw,hv⟩
end forms
theorem fl(a:Addr)(i j:Nat):(a.add i).add j=a.add (i+j):=by
 unfold Addr.add;by_cases hi:i=0 <;> by_cases hj:j=0 <;> simp[hi,hj,Nat.add_assoc]
theorem dN{G G':J5}(h:Gle G G'){a:Addr}{v:Value}(hc:eZ G a=some v):eZ G' a=some v:=by
 unfold eZ at hc ⊢;split at hc
 ·rename_i hg;rw[h _ _ hg];exact hc
 ·cases hc
def SlA{α:Type}(G:J5)(E:α→J6→Prop)(sz:Nat)(A:Ka)(xs:List α):Prop :=
 ∀ i x,xs[i]?=some x→∃ a cs,A=some a∧cs.length=sz∧E x cs∧∀ j u,cs[j]?=some u→eZ G (a.add (i * sz+j))=some u
def SlV{α:Type}(G:J5)(E:α→J6→Prop)(sz:Nat)(v:Value)(xs:List α):Prop :=
 ∃ A c,v=.slice A xs.length c∧xs.length≤c∧c≤maxLen∧SlA G E sz A xs
section slices
variable {α:Type} {G G':J5} {E E':α→J6→Prop} {sz:Nat} {A:Ka} {xs:List α} {v:Value}
theorem SlA.le(h:SlA G E sz A xs)(hg:Gle G G')(hE:∀ x cs,E x cs→E' x cs):SlA G' E' sz A xs:=fun i x hx=>by
 obtain⟨a,cs,h1,h2,h3,h4⟩:=h i x hx;exact⟨a,cs,h1,h2,hE _ _ h3,fun j u hu=>dN hg (h4 j u hu)⟩
theorem SlV.le(h:SlV G E sz v xs)(hg:Gle G G')(hE:∀ x cs,E x cs→E' x cs):SlV G' E' sz v xs:=by
 obtain⟨A,c,h1,h2,h3,h4⟩:=h;exact⟨A,c,h1,h2,h3,h4.le hg hE⟩
theorem SlV.nil:SlV G E sz (.slice none 0 0) []:=⟨none,0,rfl,Nat.le_refl _,Nat.zero_le _,fun i x hx=>by simp at hx⟩
theorem SlA.at_(h:SlA G E sz A xs){k:Nat}{x:α}(hx:xs[k]?=some x)(L:J9)(D:Kh):
  ∃ a cs,A=some a∧E x cs∧cs.length=sz∧LdN ⟨G,L,D⟩ (.pointer (some (a.add (k * sz)))) (some sz) (.agg cs.toArray)∧∀ o u,cs[o]?=some u→LdN ⟨G,L,D⟩ (.pointer (some ((a.add (k * sz)).add o))) none u:=by
 obtain⟨a,cs,h1,h2,h3,h4⟩:=h k x hx;exact⟨a,cs,h1,h3,h2,⟨_,cs,rfl,rfl,h2,fun j u hu=>by rw[fl];exact .g (h4 j u hu)⟩,fun o u hu=>⟨_,rfl,by rw[fl];exact .g (h4 o u hu)⟩⟩
theorem SlA.at1(h:SlA G E 1 A xs){k:Nat}{x:α}(hx:xs[k]?=some x)(L:J9)(D:Kh):
  ∃ a u,A=some a∧E x [u]∧LdN ⟨G,L,D⟩ (.pointer (some (a.add (k * 1)))) none u:=by
 obtain⟨a,cs,h1,h2,h3,h4⟩:=h k x hx
 match cs,h2 with
 | [u],_=>exact⟨a,u,h1,h3,_,rfl,.g (by simpa using h4 0 u rfl)⟩
theorem SlA.cut(h:SlA G E sz A xs){l n:Nat}{B:Ka}(hn:n≤xs.length)(hB:l < n→B=A.map (·.add (l * sz))):SlA G E sz B ((xs.take n).drop l):=fun i x hx=>by
 rw[List.getElem?_drop,List.getElem?_take]at hx;split at hx
 ·rename_i hlt;obtain⟨a,cs,h1,h2,h3,h4⟩:=h (l+i) x hx;refine⟨a.add (l * sz),cs,by rw[hB (by omega),h1];rfl,h2,h3,fun j u hu=>?_⟩;rw[fl,← Nat.add_assoc,← Nat.add_mul];exact h4 j u hu
 ·cases hx
end slices
def I64(n:Int):Prop:=-9223372036854775808≤n∧n≤9223372036854775807
theorem dX{n:Int}(h:-9223372036854775808≤n∧n≤9223372036854775807):IntKind.i64.wrap n=n:=IntWalk.i64_in n h
end Go.Kx
namespace Go.Kx
open Go Go.RowKit
open List (getElem?_eq_getElem mem_of_getElem? length_append append_nil append_assoc length_cons take_length)
section rules
variable {r:Kk} {P:Program} {N:Nat} {rs vs:Kh} {Q:Exit→Kj} {e:Env} {h:H} {ss:List SC}
end rules
@[simp] theorem Hb (x y:Value):vf true x y=x:=by rw[oJ];rfl
@[simp] theorem GA (x y:Value):vf false x y=y:=by rw[oJ];rfl
end Go.Kx
namespace Go.Kx
open Go Go.RowKit
open List (getElem?_eq_getElem mem_of_getElem? length_append append_nil append_assoc length_cons take_length)
def und:Env:=fun _=>undef
theorem HA:nJ #[]=und:=by funext i;simp[nJ,und]
theorem I4(a:Value):nJ #[a]=und.set 0 a:=by funext i;match i with | 0=>rfl | n+1=>simp[nJ,Env.set,und]
theorem If(a b:Value):nJ #[a,b]=(und.set 0 a).set 1 b:=by funext i;match i with | 0=>rfl | 1=>rfl | n+2=>simp[nJ,Env.set,und]
theorem IU(a b c:Value):nJ #[a,b,c]=((und.set 0 a).set 1 b).set 2 c:=by funext i;match i with | 0=>rfl | 1=>rfl | 2=>rfl | n+3=>simp[nJ,Env.set,und]
theorem H7(a b c d:Value):nJ #[a,b,c,d]=(((und.set 0 a).set 1 b).set 2 c).set 3 d:=by funext i;match i with | 0=>rfl | 1=>rfl | 2=>rfl | 3=>rfl | n+4=>simp[nJ,Env.set,und]
theorem Hc(a b c d f:Value):nJ #[a,b,c,d,f]=((((und.set 0 a).set 1 b).set 2 c).set 3 d).set 4 f:=by funext i;match i with | 0=>rfl | 1=>rfl | 2=>rfl | 3=>rfl | 4=>rfl | n+5=>simp[nJ,Env.set,und]
theorem Ii(a b c d f g:Value):nJ #[a,b,c,d,f,g]=(((((und.set 0 a).set 1 b).set 2 c).set 3 d).set 4 f).set 5 g:=by funext i;match i with | 0=>rfl | 1=>rfl | 2=>rfl | 3=>rfl | 4=>rfl | 5=>rfl | n+6=>simp[nJ,Env.set,und]
theorem IM(e:Env)(d:Nat)(v:Value):e.set d v d=v:=by simp[Env.set]
theorem Is(e:Env)(d i:Nat)(v:Value)(h:(i == d)=false):e.set d v i=e i:=by
 have:¬ i=d:=by simpa using h
 simp[Env.set,this]
theorem J0(e:Env)(n:Nat):ev e (.t n)=e n:=rfl
theorem JQ(e:Env)(n:Int):ev e (.i n)=.int .i64 n:=rfl
theorem JP(e:Env)(x:Bool):ev e (.b x)=.bool x:=rfl
theorem JV(e:Env)(x:Value):ev e (.v x)=x:=rfl
def kR(P:Program)(l:J7)(d:Nat)(e:Env)(K:Kj)(v:Value)(h:H):Prop:=dD P l (e.set d v) h K
def doV(P:Program)(v:Option Value)(d:Nat)(l:J7)(e:Env)(h:H)(K:Kj):Prop :=
 match v with
 | some v=>dD P l (e.set d v) h K
 | none=>False
def doC(P:Program)(v:Option (J6))(l:J7)(e:Env)(h:H)(K:Kj):Prop :=
 match v with
 | some _=>dD P l e h K
 | none=>False
def doL(P:Program)(v:Option (J6))(o:Nat)(n:Kk)(d:Nat)(l:J7)(e:Env)(h:H)(K:Kj):Prop :=
 match v with
 | some cs=>doV P (ldC cs o n) d l e h K
 | none=>False
def doS(P:Program)(v:Option (J6))(xs:J6)(s o n:Nat)(l:J7)(e:Env)(h:H)(K:Kj):Prop :=
 match v with
 | some cs=>(xs.length=n∧o+n≤cs.length∧xs.all (·.oneCell')=true)∧dD P l e { h with L:=fV s (splice cs o xs) h.L } K
 | none=>False
def ixX(P:Program)(x i:Value)(sz d:Nat)(l:J7)(e:Env)(h:H)(K:Kj):Prop :=
 match x,i with
 | .slice A n _,.int _ j=>(0≤j∧j < n)∧∃ a,A=some a∧kR P l d e K (.pointer (some (a.add (j.toNat * sz)))) h
 | _,_=>False
def slX(P:Program)(x:Value)(lo hi mx:Option O)(sz d:Nat)(l:J7)(e:Env)(h:H)(K:Kj):Prop :=
 match x with
 | .slice A n c =>
  match bnd e 0 lo,bnd e n hi,bnd e c mx with
  | some lw,some u,some m=>(0≤lw∧lw≤u∧u≤m∧m≤c)∧kR P l d e K (.slice (if m.toNat=lw.toNat then A else A.map (·.add (lw.toNat * sz))) (u.toNat - lw.toNat) (m.toNat - lw.toNat)) h
  | _,_,_=>False
 | _=>False
def ldX(P:Program)(x:Value)(n:Kk)(d:Nat)(l:J7)(e:Env)(h:H)(K:Kj):Prop:=∃ v,LdN h x n v∧kR P l d e K v h
def stX(P:Program)(x:Value)(xs:J6)(n:Nat)(l:J7)(e:Env)(h:H)(K:Kj):Prop :=
 ∃ L',StL h.L x xs L'∧(xs.length=n∧xs.all (·.oneCell')=true)∧dD P l e { h with L:=L' } K
def apX(P:Program)(x y:Value)(et:TypeId)(sz nb d:Nat)(l:J7)(e:Env)(h:H)(K:Kj):Prop :=
 ∃ L1 n xs L2 m ys,Ay h.L x et sz L1 n xs L2∧DW h y sz m ys∧((n+m) * nb≤140737488355328∧n+m≤maxLen) ∧
   ∀ A c,kR P l d e K (.slice A (n+m) c) { h with L:=L1++.row (.slice A (n+m) c) et sz (n+m) (xs++ys) :: L2 }
def alX(P:Program)(cs:J6)(d:Nat)(l:J7)(e:Env)(h:H)(K:Kj):Prop:=∀ b,h.G b=none→kR P l d e K (.pointer (some ⟨b,0,none⟩)) { h with L:=.blk b cs :: h.L }
def blX(P:Program)(cs:Option (J6))(et n sz d:Nat)(l:J7)(e:Env)(h:H)(K:Kj):Prop :=
 match cs with
 | some cs=>cs.length=n * sz∧∀ b,h.G b=none→kR P l d e K (.slice (some ⟨b,0,none⟩) n n) { h with L:=.row (.slice (some ⟨b,0,none⟩) n n) et sz n cs :: h.L }
 | none=>False
def azX(P:Program)(et sz nb:Nat)(x y:Value)(d:Nat)(l:J7)(e:Env)(h:H)(K:Kj):Prop :=
 ∃ n:Nat,(x=.slice none 0 0∧y=.int .i64 n)∧(0 < n∧n * nb≤140737488355328∧n≤maxLen) ∧
  ∀ b c zs,h.G b=none→kR P l d e K (.slice (some ⟨b,0,none⟩) n c) { h with L:=.row (.slice (some ⟨b,0,none⟩) n c) et sz n zs :: h.L }
def clX(P:Program)(z:Array Value)(x:Value)(d:Nat)(l:J7)(e:Env)(h:H)(K:Kj):Prop :=
 ∃ A n c L',x=.slice A n c∧((n=0∧L'=h.L)∨∃ b o,(A=some ⟨b,o,none⟩∧∀ u∈z.toList,u.oneCell'=true)∧StL h.L (.pointer (some ⟨b,o,none⟩)) (Builtin.zeroCells z n).toList L')∧kR P l d e K (.tuple #[]) { h with L:=L' }
def gdY(P:Program)(v:Value)(b:Bool)(s:SOp)(c:Kk)(k d:Nat)(l:J7)(e:Env)(h:H)(K:Kj):Prop :=
 match v with
 | .bool t=>if t=b then dD P (⟨none,s,c,0⟩ :: l) (e.set d (.bool b)) h K else dD P l ((e.set d (.bool !b)).set k undef) h K
 | _=>dD P l (e.set k undef) h K
theorem ir{e:Env}{d:Nat}{v:Value}(h:e d=v):e.set d v=e:=by
 funext i
 simp only[Env.set];split
 ·rename_i hi;rw[hi,h]
 ·rfl
section rules
variable {P:Program} {e:Env} {h:H} {K:Kj} {l:J7} {k d:Nat} {c:Kk} {s:SOp}
theorem GX:dD P [] e h K=K e h:=rfl
theorem JI(x:O):dD P (⟨none,.mv d x,none,k⟩ :: l) e h K=doV P (some (ev e x)) d l e h K:=rfl
theorem FI(z x y:O):dD P (⟨none,.pick d z x y,none,k⟩ :: l) e h K=doV P (nR (ev e z) (ev e x) (ev e y)) d l e h K:=rfl
theorem IV(op:BinOp)(x y:O):dD P (⟨none,.bin d op x y,none,k⟩ :: l) e h K=doV P (ff op (ev e x) (ev e y)) d l e h K:=rfl
theorem Ic(ne:Bool)(x y:O):dD P (⟨none,.eqb d ne x y,none,k⟩ :: l) e h K=doV P (Gh ne (ev e x) (ev e y)) d l e h K:=rfl
theorem Ia(ne:Bool)(ks:Kh)(x y:O):dD P (⟨none,.eqf d ne ks x y,none,k⟩ :: l) e h K=doV P (Aj ne ks (ev e x) (ev e y)) d l e h K:=rfl
theorem JX(op:UnOp)(x:O):dD P (⟨none,.un d op x,none,k⟩ :: l) e h K=doV P (unV op (ev e x)) d l e h K:=rfl
theorem HL(ne:Bool)(x:O):dD P (⟨none,.isn d ne x,none,k⟩ :: l) e h K=doV P (Bw ne (ev e x)) d l e h K:=rfl
theorem IQ(ik:IntKind)(x:O):dD P (⟨none,.cvI d ik x,none,k⟩ :: l) e h K=doV P (Kx.cvI ik (ev e x)) d l e h K:=rfl
theorem GG(x:O)(i:Nat):dD P (⟨none,.ext d x i,none,k⟩ :: l) e h K=doV P (DS i (ev e x)) d l e h K:=rfl
theorem I2(x:O)(o:Nat)(n:Kk):dD P (⟨none,.fld d x o n,none,k⟩ :: l) e h K=doV P (uQ o n (ev e x)) d l e h K:=rfl
theorem Ha(z:J6)(ps:List (Nat × Nat × O)):dD P (⟨none,.bld d z ps,none,k⟩ :: l) e h K=doV P ((lm (ps.map fun p=>(p.1,p.2.1,eK (ev e p.2.2))) z).map fun cs=>.agg cs.toArray) d l e h K:=rfl
theorem IY(f:Fn)(cs:List O):dD P (⟨none,.mkf d f cs,none,k⟩ :: l) e h K=doV P (some (.func f #[] (cs.map (ev e)).toArray)) d l e h K:=rfl
theorem HM(x:O):dD P (⟨none,.cpc d x,none,k⟩ :: l) e h K=doV P (Fj (ev e x)) d l e h K:=rfl
theorem HY(b:Bool)(x:O):dD P (⟨none,.len d b x,none,k⟩ :: l) e h K=doV P (DT b (ev e x)) d l e h K:=rfl
theorem JR(mx:Bool)(x y:O):dD P (⟨none,.mm d mx x y,none,k⟩ :: l) e h K=doV P (mmV mx (ev e x) (ev e y)) d l e h K:=rfl
theorem GU(x:O):dD P (⟨none,.nck d x,none,k⟩ :: l) e h K=doV P (Ej (ev e x)) d l e h K:=rfl
theorem IZ(x:O)(o:Nat):dD P (⟨none,.flA d x o,none,k⟩ :: l) e h K=doV P (FU o (ev e x)) d l e h K:=rfl
theorem H0(v:Value):doV P (some v) d l e h K=dD P l (e.set d v) h K:=rfl
theorem HX{x:Nat}:dD P (⟨none,.nop,some x,k⟩ :: l) e h K=doC P (getR x h.L) l e h K:=by
 simp only[dD,opC,doC,opS];cases getR x h.L <;> rfl
theorem Fe:dD P (⟨none,.nop,none,k⟩ :: l) e h K=dD P l e h K:=rfl
theorem Iq(cs:J6):doC P (some cs) l e h K=dD P l e h K:=rfl
theorem HJ(x i:O)(n sz:Nat):dD P (⟨none,.ixP d x i n sz,none,k⟩ :: l) e h K=doV P (uU n sz (ev e x) (ev e i)) d l e h K:=rfl
theorem HC(x i:O)(n sz:Nat)(m:Kk):dD P (⟨none,.ixV d x i n sz m,none,k⟩ :: l) e h K=doV P (xh n sz m (ev e x) (ev e i)) d l e h K:=rfl
theorem BZ{n sz:Nat}{a:Addr}{kk:IntKind}{j:Int}:doV P (uU n sz (.pointer (some a)) (.int kk j)) d l e h K=((0≤j∧j < n)∧doV P (some (.pointer (some (a.add (j.toNat * sz))))) d l e h K):=by
 by_cases hj:0≤j∧j < n
 ·simp only[uU,hj,and_self,true_and,if_true]
 ·simp only[uU,if_neg hj];simp[doV];omega
theorem Cc{n sz:Nat}{m:Kk}{cs:Array Value}{kk:IntKind}{j:Int}:doV P (xh n sz m (.agg cs) (.int kk j)) d l e h K=((0≤j∧j < n)∧doV P (uQ (j.toNat * sz) m (.agg cs)) d l e h K):=by
 by_cases hj:0≤j∧j < n
 ·simp only[xh,hj,and_self,true_and,if_true]
 ·simp only[xh,if_neg hj];simp[doV];omega
theorem HE{x o:Nat}{n:Kk}:dD P (⟨none,.ldR d x o n,none,k⟩ :: l) e h K=doL P (getR x h.L) o n d l e h K:=by
 simp only[dD,opC,opS,doL];cases getR x h.L with
 | none=>rfl
 | some cs=>cases ldC cs o n <;> rfl
theorem HR(cs:J6)(o:Nat)(n:Kk):doL P (some cs) o n d l e h K=doV P (ldC cs o n) d l e h K:=rfl
theorem GJ{x o n:Nat}{y:O}:dD P (⟨none,.stR x o n y,none,k⟩ :: l) e h K=doS P (getR x h.L) (eK (ev e y)) x o n l e h K:=by
 simp only[dD,opC,opS,doS];cases getR x h.L <;> rfl
theorem Hv(cs xs:J6)(x o n:Nat):doS P (some cs) xs x o n l e h K=((xs.length=n∧o+n≤cs.length∧xs.all (·.oneCell')=true)∧dD P l e { h with L:=fV x (splice cs o xs) h.L } K):=rfl
theorem In{x:Nat}{z:J6}:dD P (⟨none,.alR x z,none,k⟩ :: l) e h K=dD P l e { h with L:=.reg x z :: rmR x h.L } K:=rfl
theorem HO{x:Nat}{y:O}:dD P (⟨none,.bxR x y,none,k⟩ :: l) e h K=dD P l e { h with L:=.reg x (eK (ev e y)) :: rmR x h.L } K:=rfl
theorem JJ{x i:O}{sz:Nat}:dD P (⟨none,.ixA d x i sz,none,k⟩ :: l) e h K=ixX P (ev e x) (ev e i) sz d l e h K:=by
 simp only[dD,opC,opS,ixX,kR];cases ev e x <;> cases ev e i <;> rfl
theorem HV{A:Ka}{n cc:Nat}{kk:IntKind}{j:Int}{sz:Nat}:ixX P (.slice A n cc) (.int kk j) sz d l e h K=((0≤j∧j < n)∧∃ a,A=some a∧kR P l d e K (.pointer (some (a.add (j.toNat * sz)))) h):=rfl
theorem Js{x:O}{lo hi mx:Option O}{sz:Nat}:dD P (⟨none,.sl d x lo hi mx sz,none,k⟩ :: l) e h K=slX P (ev e x) lo hi mx sz d l e h K:=by
 simp only[dD,opC,opS,slX,kR];cases ev e x <;> rfl
def csX(P:Program)(v:Value)(d:Nat)(l:J7)(e:Env)(h:H)(K:Kj):Prop:=∃ s,ux h v s∧kR P l d e K (.string s) h
theorem GQ{x:O}:dD P (⟨none,.cvS d x,none,k⟩ :: l) e h K=csX P (ev e x) d l e h K:=rfl
theorem x_ld{x:O}{n:Kk}:dD P (⟨none,.ld d x n,none,k⟩ :: l) e h K=ldX P (ev e x) n d l e h K:=rfl
theorem Jq{x y:O}{n:Nat}:dD P (⟨none,.st x n y,none,k⟩ :: l) e h K=stX P (ev e x) (eK (ev e y)) n l e h K:=rfl
theorem GE{x y:O}{et sz nb:Nat}:dD P (⟨none,.app d x y et sz nb,none,k⟩ :: l) e h K=apX P (ev e x) (ev e y) et sz nb d l e h K:=rfl
theorem Hi{z:Array Value}{x:O}:dD P (⟨none,.clr d x z,none,k⟩ :: l) e h K=clX P z (ev e x) d l e h K:=rfl
theorem IF{et sz nb:Nat}{x y:O}:dD P (⟨none,.apz d et sz nb x y,none,k⟩ :: l) e h K=azX P et sz nb (ev e x) (ev e y) d l e h K:=rfl
theorem Jp{z:J6}:dD P (⟨none,.al d z,none,k⟩ :: l) e h K=alX P z d l e h K:=rfl
theorem JU{y:O}:dD P (⟨none,.bx d y,none,k⟩ :: l) e h K=alX P (eK (ev e y)) d l e h K:=rfl
theorem GK:dD P (⟨none,.bl0 d,none,k⟩ :: l) e h K=∀ b,h.G b=none→kR P l d e K (.slice (some ⟨b,0,none⟩) 0 0) h:=rfl
theorem HP{et n sz:Nat}{z:J6}{ps:List (Nat × Nat × O)}:dD P (⟨none,.bls d et n sz z ps,none,k⟩ :: l) e h K=blX P (lm (ps.map fun p=>(p.1,p.2.1,eK (ev e p.2.2))) z) et n sz d l e h K:=by
 simp only[dD,opC,opS,blX];cases lm (ps.map fun p=>(p.1,p.2.1,eK (ev e p.2.2))) z <;> rfl
theorem Gx{cs:J6}{et n sz:Nat}:blX P (some cs) et n sz d l e h K=(cs.length=n * sz∧∀ b,h.G b=none→kR P l d e K (.slice (some ⟨b,0,none⟩) n n) { h with L:=.row (.slice (some ⟨b,0,none⟩) n n) et sz n cs :: h.L }):=rfl
theorem EZ{f:Nat}{xs:List O}:dD P (⟨none,.call d f xs,none,k⟩ :: l) e h K=eh P f (xs.map (ev e)).toArray h (kR P l d e K):=rfl
theorem Ib{f:O}{xs:List O}:dD P (⟨none,.cav d f xs,none,k⟩ :: l) e h K=GY P (ev e f) (xs.map (ev e)).toArray h (kR P l d e K):=rfl
theorem x_g{b:Bool}:dD P (⟨some (d,b),s,c,k⟩ :: l) e h K=gdY P (e d) b s c k d l e h K:=by
 simp only[dD,gdY];cases hv:e d <;> simp only[gOk,Bool.false_eq_true,if_false];rename_i t;by_cases ht:t=b
 ·subst ht;simp only[beq_self_eq_true,if_true];rw[ir hv]
 ·have:(t == b)=false:=by simpa using ht
  have h2:(!b)=t:=by cases t <;> cases b <;> simp_all
  simp only[this,Bool.false_eq_true,if_false,ht];rw[h2,ir hv]
theorem E5:gdY P (.bool true) true s c k d l e h K=dD P (⟨none,s,c,0⟩ :: l) (e.set d (.bool true)) h K:=by simp[gdY]
theorem E3:gdY P (.bool false) false s c k d l e h K=dD P (⟨none,s,c,0⟩ :: l) (e.set d (.bool false)) h K:=by simp[gdY]
theorem D8:gdY P (.bool true) false s c k d l e h K=dD P l ((e.set d (.bool true)).set k undef) h K:=by simp[gdY]
theorem EH:gdY P (.bool false) true s c k d l e h K=dD P l ((e.set d (.bool false)).set k undef) h K:=by simp[gdY]
theorem gd{t b:Bool}(h1:t=true→gdY P (.bool true) b s c k d l e h K)(h2:t=false→gdY P (.bool false) b s c k d l e h K):gdY P (.bool t) b s c k d l e h K:=by
 cases t
 ·exact h2 rfl
 ·exact h1 rfl
theorem nG(v:Value):kR P l d e K v h=dD P l (e.set d v) h K:=rfl
end rules
def kQ(P:Program)(l:J7)(d:Nat)(e:Env)(h:H)(K:Env→Prop)(v:Value):Prop:=dP P l (e.set d v) h K
def qoV(P:Program)(v:Option Value)(d:Nat)(l:J7)(e:Env)(h:H)(K:Env→Prop):Prop :=
 match v with
 | some v=>dP P l (e.set d v) h K
 | none=>False
def qoC(P:Program)(v:Option (J6))(l:J7)(e:Env)(h:H)(K:Env→Prop):Prop :=
 match v with
 | some _=>dP P l e h K
 | none=>False
def qoL(P:Program)(v:Option (J6))(o:Nat)(n:Kk)(d:Nat)(l:J7)(e:Env)(h:H)(K:Env→Prop):Prop :=
 match v with
 | some cs=>qoV P (ldC cs o n) d l e h K
 | none=>False
def iqX(P:Program)(x i:Value)(sz d:Nat)(l:J7)(e:Env)(h:H)(K:Env→Prop):Prop :=
 match x,i with
 | .slice A n _,.int _ j=>(0≤j∧j < n)∧∃ a,A=some a∧kQ P l d e h K (.pointer (some (a.add (j.toNat * sz))))
 | _,_=>False
def sqX(P:Program)(x:Value)(lo hi mx:Option O)(sz d:Nat)(l:J7)(e:Env)(h:H)(K:Env→Prop):Prop :=
 match x with
 | .slice A n c =>
  match bnd e 0 lo,bnd e n hi,bnd e c mx with
  | some lw,some u,some m=>(0≤lw∧lw≤u∧u≤m∧m≤c)∧kQ P l d e h K (.slice (if m.toNat=lw.toNat then A else A.map (·.add (lw.toNat * sz))) (u.toNat - lw.toNat) (m.toNat - lw.toNat))
  | _,_,_=>False
 | _=>False
def lqX(P:Program)(x:Value)(n:Kk)(d:Nat)(l:J7)(e:Env)(h:H)(K:Env→Prop):Prop:=∃ v,LdN h x n v∧kQ P l d e h K v
def JE(P:Program)(v:Value)(d:Nat)(l:J7)(e:Env)(h:H)(K:Env→Prop):Prop:=∃ s,ux h v s∧kQ P l d e h K (.string s)
def cqX(P:Program)(f:FuncId)(args:Array Value)(d:Nat)(l:J7)(e:Env)(h:H)(K:Env→Prop):Prop:=∃ v,eh P f args h (fun v' h'=>v'=v∧h'=h)∧kQ P l d e h K v
def gqY(P:Program)(v:Value)(b:Bool)(s:SOp)(c:Kk)(k d:Nat)(l:J7)(e:Env)(h:H)(K:Env→Prop):Prop :=
 match v with
 | .bool t=>if t=b then dP P (⟨none,s,c,0⟩ :: l) (e.set d (.bool b)) h K else dP P l ((e.set d (.bool !b)).set k undef) h K
 | _=>dP P l (e.set k undef) h K
section rulesQ
variable {P:Program} {e:Env} {h:H} {K:Env→Prop} {l:J7} {k d:Nat} {c:Kk} {s:SOp}
theorem H2:dP P [] e h K=K e:=rfl
theorem JL(x:O):dP P (⟨none,.mv d x,none,k⟩ :: l) e h K=qoV P (some (ev e x)) d l e h K:=rfl
theorem Gl(z x y:O):dP P (⟨none,.pick d z x y,none,k⟩ :: l) e h K=qoV P (nR (ev e z) (ev e x) (ev e y)) d l e h K:=rfl
theorem GN(op:BinOp)(x y:O):dP P (⟨none,.bin d op x y,none,k⟩ :: l) e h K=qoV P (ff op (ev e x) (ev e y)) d l e h K:=rfl
theorem IC(ne:Bool)(x y:O):dP P (⟨none,.eqb d ne x y,none,k⟩ :: l) e h K=qoV P (Gh ne (ev e x) (ev e y)) d l e h K:=rfl
theorem IA(ne:Bool)(ks:Kh)(x y:O):dP P (⟨none,.eqf d ne ks x y,none,k⟩ :: l) e h K=qoV P (Aj ne ks (ev e x) (ev e y)) d l e h K:=rfl
theorem Jw(op:UnOp)(x:O):dP P (⟨none,.un d op x,none,k⟩ :: l) e h K=qoV P (unV op (ev e x)) d l e h K:=rfl
theorem HU(ne:Bool)(x:O):dP P (⟨none,.isn d ne x,none,k⟩ :: l) e h K=qoV P (Bw ne (ev e x)) d l e h K:=rfl
theorem IK(ik:IntKind)(x:O):dP P (⟨none,.cvI d ik x,none,k⟩ :: l) e h K=qoV P (Kx.cvI ik (ev e x)) d l e h K:=rfl
theorem Iv(x:O)(i:Nat):dP P (⟨none,.ext d x i,none,k⟩ :: l) e h K=qoV P (DS i (ev e x)) d l e h K:=rfl
theorem Iy(x:O)(o:Nat)(n:Kk):dP P (⟨none,.fld d x o n,none,k⟩ :: l) e h K=qoV P (uQ o n (ev e x)) d l e h K:=rfl
theorem IN(z:J6)(ps:List (Nat × Nat × O)):dP P (⟨none,.bld d z ps,none,k⟩ :: l) e h K=qoV P ((lm (ps.map fun p=>(p.1,p.2.1,eK (ev e p.2.2))) z).map fun cs=>.agg cs.toArray) d l e h K:=rfl
theorem GP(f:Fn)(cs:List O):dP P (⟨none,.mkf d f cs,none,k⟩ :: l) e h K=qoV P (some (.func f #[] (cs.map (ev e)).toArray)) d l e h K:=rfl
theorem IW(x:O):dP P (⟨none,.cpc d x,none,k⟩ :: l) e h K=qoV P (Fj (ev e x)) d l e h K:=rfl
theorem Ip(b:Bool)(x:O):dP P (⟨none,.len d b x,none,k⟩ :: l) e h K=qoV P (DT b (ev e x)) d l e h K:=rfl
theorem Jn(mx:Bool)(x y:O):dP P (⟨none,.mm d mx x y,none,k⟩ :: l) e h K=qoV P (mmV mx (ev e x) (ev e y)) d l e h K:=rfl
theorem GZ(x:O):dP P (⟨none,.nck d x,none,k⟩ :: l) e h K=qoV P (Ej (ev e x)) d l e h K:=rfl
theorem GT(x:O)(o:Nat):dP P (⟨none,.flA d x o,none,k⟩ :: l) e h K=qoV P (FU o (ev e x)) d l e h K:=rfl
theorem H6(v:Value):qoV P (some v) d l e h K=dP P l (e.set d v) h K:=rfl
theorem IP{x:Nat}:dP P (⟨none,.nop,some x,k⟩ :: l) e h K=qoC P (getR x h.L) l e h K:=by
 simp only[dP,kU,qoC,opQ];cases getR x h.L <;> rfl
theorem ES:dP P (⟨none,.nop,none,k⟩ :: l) e h K=dP P l e h K:=rfl
theorem HH(cs:J6):qoC P (some cs) l e h K=dP P l e h K:=rfl
theorem I1(x i:O)(n sz:Nat):dP P (⟨none,.ixP d x i n sz,none,k⟩ :: l) e h K=qoV P (uU n sz (ev e x) (ev e i)) d l e h K:=rfl
theorem GV(x i:O)(n sz:Nat)(m:Kk):dP P (⟨none,.ixV d x i n sz m,none,k⟩ :: l) e h K=qoV P (xh n sz m (ev e x) (ev e i)) d l e h K:=rfl
theorem Cm{n sz:Nat}{a:Addr}{kk:IntKind}{j:Int}:qoV P (uU n sz (.pointer (some a)) (.int kk j)) d l e h K=((0≤j∧j < n)∧qoV P (some (.pointer (some (a.add (j.toNat * sz))))) d l e h K):=by
 by_cases hj:0≤j∧j < n
 ·simp only[uU,hj,and_self,true_and,if_true]
 ·simp only[uU,if_neg hj];simp[qoV];omega
theorem Cd{n sz:Nat}{m:Kk}{cs:Array Value}{kk:IntKind}{j:Int}:qoV P (xh n sz m (.agg cs) (.int kk j)) d l e h K=((0≤j∧j < n)∧qoV P (uQ (j.toNat * sz) m (.agg cs)) d l e h K):=by
 by_cases hj:0≤j∧j < n
 ·simp only[xh,hj,and_self,true_and,if_true]
 ·simp only[xh,if_neg hj];simp[qoV];omega
theorem GC{x o:Nat}{n:Kk}:dP P (⟨none,.ldR d x o n,none,k⟩ :: l) e h K=qoL P (getR x h.L) o n d l e h K:=by
 simp only[dP,kU,opQ,qoL];cases getR x h.L with
 | none=>rfl
 | some cs=>cases ldC cs o n <;> rfl
theorem Ih(cs:J6)(o:Nat)(n:Kk):qoL P (some cs) o n d l e h K=qoV P (ldC cs o n) d l e h K:=rfl
theorem Jv{x i:O}{sz:Nat}:dP P (⟨none,.ixA d x i sz,none,k⟩ :: l) e h K=iqX P (ev e x) (ev e i) sz d l e h K:=by
 simp only[dP,kU,opQ,iqX,kQ];cases ev e x <;> cases ev e i <;> rfl
theorem HG{A:Ka}{n cc:Nat}{kk:IntKind}{j:Int}{sz:Nat}:iqX P (.slice A n cc) (.int kk j) sz d l e h K=((0≤j∧j < n)∧∃ a,A=some a∧kQ P l d e h K (.pointer (some (a.add (j.toNat * sz))))):=rfl
theorem Jt{x:O}{lo hi mx:Option O}{sz:Nat}:dP P (⟨none,.sl d x lo hi mx sz,none,k⟩ :: l) e h K=sqX P (ev e x) lo hi mx sz d l e h K:=by
 simp only[dP,kU,opQ,sqX,kQ];cases ev e x <;> rfl
theorem GL{x:O}:dP P (⟨none,.cvS d x,none,k⟩ :: l) e h K=JE P (ev e x) d l e h K:=rfl
theorem y_ld{x:O}{n:Kk}:dP P (⟨none,.ld d x n,none,k⟩ :: l) e h K=lqX P (ev e x) n d l e h K:=rfl
theorem EW{f:Nat}{xs:List O}:dP P (⟨none,.call d f xs,none,k⟩ :: l) e h K=cqX P f (xs.map (ev e)).toArray d l e h K:=rfl
theorem y_g{b:Bool}:dP P (⟨some (d,b),s,c,k⟩ :: l) e h K=gqY P (e d) b s c k d l e h K:=by
 simp only[dP,gqY];cases hv:e d <;> simp only[gOk,Bool.false_eq_true,if_false];rename_i t;by_cases ht:t=b
 ·subst ht;simp only[beq_self_eq_true,if_true];rw[ir hv]
 ·have:(t == b)=false:=by simpa using ht
  have h2:(!b)=t:=by cases t <;> cases b <;> simp_all
  simp only[this,Bool.false_eq_true,if_false,ht];rw[h2,ir hv]
theorem Ev:gqY P (.bool true) true s c k d l e h K=dP P (⟨none,s,c,0⟩ :: l) (e.set d (.bool true)) h K:=by simp[gqY]
theorem El:gqY P (.bool false) false s c k d l e h K=dP P (⟨none,s,c,0⟩ :: l) (e.set d (.bool false)) h K:=by simp[gqY]
theorem EN:gqY P (.bool true) false s c k d l e h K=dP P l ((e.set d (.bool true)).set k undef) h K:=by simp[gqY]
theorem Ff:gqY P (.bool false) true s c k d l e h K=dP P l ((e.set d (.bool false)).set k undef) h K:=by simp[gqY]
theorem gq{t b:Bool}(h1:t=true→gqY P (.bool true) b s c k d l e h K)(h2:t=false→gqY P (.bool false) b s c k d l e h K):gqY P (.bool t) b s c k d l e h K:=by
 cases t
 ·exact h2 rfl
 ·exact h1 rfl
theorem nH(v:Value):kQ P l d e h K v=dP P l (e.set d v) h K:=rfl
end rulesQ
theorem Av(a b:Int):ff .add (.int .i64 a) (.int .i64 b)=some (.int .i64 (IntKind.i64.wrap (a+b))):=rfl
theorem yP(a b:Int):ff .sub (.int .i64 a) (.int .i64 b)=some (.int .i64 (IntKind.i64.wrap (a - b))):=rfl
theorem zW(a b:Int):ff .mul (.int .i64 a) (.int .i64 b)=some (.int .i64 (IntKind.i64.wrap (a * b))):=rfl
theorem zb(k:IntKind)(a b:Int):ff .eql (.int k a) (.int k b)=some (.bool (decide (a=b))):=by simp[ff]
theorem zg(k:IntKind)(a b:Int):ff .neq (.int k a) (.int k b)=some (.bool (decide (a≠b))):=by simp[ff]
theorem Ah(k:IntKind)(a b:Int):ff .lss (.int k a) (.int k b)=some (.bool (decide (a < b))):=by simp[ff]
theorem zm(k:IntKind)(a b:Int):ff .leq (.int k a) (.int k b)=some (.bool (decide (a≤b))):=by simp[ff]
theorem zB(k:IntKind)(a b:Int):ff .gtr (.int k a) (.int k b)=some (.bool (decide (b < a))):=by simp[ff]
theorem AB(k:IntKind)(a b:Int):ff .geq (.int k a) (.int k b)=some (.bool (decide (b≤a))):=by simp[ff]
theorem zp(a b:Int)(hb:(b == 0)=false):ff .rem (.int .i64 a) (.int .i64 b)=some (.int .i64 (a.tmod b)):=by
 have:¬ b=0:=by simpa using hb
 simp[ff,this]
theorem zk(a b:Int)(hb:(b == 0)=false):ff .quo (.int .i64 a) (.int .i64 b)=some (.int .i64 (IntKind.i64.wrap (a.tdiv b))):=by
 have:¬ b=0:=by simpa using hb
 simp[ff,this]
theorem Dq(b:Bool):unV .not (.bool b)=some (.bool !b):=rfl
theorem Bv(a:Int):unV .neg (.int .i64 a)=some (.int .i64 (IntKind.i64.wrap (0 - a))):=rfl
theorem BT(x y:Value):nR (.bool true) x y=some x:=by simp[nR]
theorem Do(x y:Value):nR (.bool false) x y=some y:=by simp[nR]
theorem rD(k:IntKind)(n:Int):eK (.int k n)=[.int k n]:=rfl
theorem oD(x:Bool):eK (.bool x)=[.bool x]:=rfl
theorem Dm(x:ByteArray):eK (.string x)=[.string x]:=rfl
theorem AA(A:Ka)(n c:Nat):eK (.slice A n c)=[.slice A n c]:=rfl
theorem CI(A:Ka):eK (.pointer A)=[.pointer A]:=rfl
theorem Cr(f:Fn)(a b:Array Value):eK (.func f a b)=[.func f a b]:=rfl
theorem CY(l:J6):eK (.agg l.toArray)=l:=by simp[eK,Value.cells]
theorem Ik(cs:J6)(o:Nat):ldC cs o none=cs[o]?:=rfl
theorem GO(cs:J6)(o n:Nat)(h:o+n≤cs.length):ldC cs o (some n)=some (.agg ((cs.drop o).take n).toArray):=by
 simp only[ldC];rw[if_pos h]
theorem EC(l:J6)(o:Nat):uQ o none (.agg l.toArray)=l[o]?:=by simp[uQ]
theorem EF(l:J6)(o n:Nat):uQ o (some n) (.agg l.toArray)=some (.agg ((l.drop o).take n).toArray):=by simp[uQ]
theorem FF(l:J6)(i:Nat):DS i (.tuple l.toArray)=l[i]?:=by simp[DS]
theorem spl_0(cs xs:J6):splice cs 0 xs=xs++cs.drop xs.length:=by simp[splice]
theorem H3(c:Value)(cs xs:J6)(n:Nat):splice (c :: cs) (n+1) xs=c :: splice cs n xs:=by simp[splice,Nat.add_right_comm n 1 xs.length]
theorem Gz(v:Value):sZ [v]=v:=rfl
theorem Il(v u:Value):sZ [v,u]=.tuple #[v,u]:=rfl
theorem Hz(v u x:Value):sZ [v,u,x]=.tuple #[v,u,x]:=rfl
theorem IJ:sZ []=.tuple #[]:=rfl
def iv:Value→Nat
 | .int _ j=>j.toNat
 | _=>0
theorem JY(k:IntKind)(j:Int):iv (.int k j)=j.toNat:=rfl
theorem GF(k:IntKind)(n:Int):(Value.int k n).oneCell'=true:=rfl
theorem IG(x:Bool):(Value.bool x).oneCell'=true:=rfl
theorem II(x:ByteArray):(Value.string x).oneCell'=true:=rfl
theorem EU(A:Ka)(n c:Nat):(Value.slice A n c).oneCell'=true:=rfl
theorem GS(A:Ka):(Value.pointer A).oneCell'=true:=rfl
theorem Iw(f:Fn)(a b:Array Value):(Value.func f a b).oneCell'=true:=rfl
theorem Au:([]:J6).all (fun x=>x.oneCell')=true:=rfl
theorem wX(x:Value)(xs:J6):(x :: xs).all (fun y=>y.oneCell')=(x.oneCell' && xs.all (fun y=>y.oneCell')):=rfl
attribute [push_cast] GF IG II EU GS Iw Au wX Bool.and_self Bool.and_true Bool.true_and
attribute [push_cast] HJ HC BZ Cc GQ I1 GV Cm Cd GL IJ Gz Il Hz JY HA I4 If IU H7 Hc Ii IM Is J0 JQ JP JV GX JI FI IV Ic Ia JX HL IQ GG I2 Ha IY HY HM IF Hi Fj JR GU IZ H0 HX Fe Iq HE HR GJ Hv In HO JJ HV Js x_ld Jq GE Jp JU GK HP Gx EZ Ib x_g E5 E3 D8 EH H2 JL Gl GN IC IA Jw HU IK Iv Iy IN GP Ip IW Jn GZ GT H6 IP ES HH GC Ih Jv HG Jt y_ld EW y_g Ev El EN Ff Av yP zW zb zg Ah zm zB AB zp zk Dq Bv BT Do rD oD Dm AA CI Cr CY Ik GO EC EF FF spl_0 H3 DT Ej FU Bw Gh Aj eqC cvI getR fV rmR List.map_cons List.map_nil length_cons List.length_nil List.drop_succ_cons List.drop_zero List.take_succ_cons List.take_zero List.nil_append List.cons_append List.getElem?_cons_zero List.getElem?_cons_succ
end Go.Kx
namespace Go.Kx
open Go Go.RowKit
open List (getElem?_eq_getElem mem_of_getElem? length_append append_nil append_assoc length_cons take_length)
inductive Td where
 | s (x:SC)
 | b (id:Nat)
 | l (I:Kj)
 | n
def kS(r:Kk)(P:Program)(N:Nat)(rs vs:Kh)(Q:Exit→Kj):List Td→Exit→Kj
 | []=>Q
 | .s x :: fr=>eH (wK r P N rs vs x (kS r P N rs vs Q fr)) (kS r P N rs vs Q fr)
 | .b id :: fr=>DX id (kS r P N rs vs Q fr)
 | .l I :: fr=>eH I (kS r P N rs vs Q fr)
 | .n :: fr=>Ja (kS r P N rs vs Q fr)
def go(r:Kk)(P:Program)(N:Nat)(rs vs:Kh)(Q:Exit→Kj)(fr:List Td)(e:Env)(h:H):Prop:=kS r P N rs vs Q fr .normal e h
def mix(lo hi:Nat)(e b:Env):Env:=fun i=>if i=99999∨(lo≤i∧i < hi)then b i else e i
theorem ti(lo hi:Nat)(e:Env):mix lo hi e e=e:=by
 funext i;simp[mix]
theorem Ie(lo hi:Nat)(e b:Env)(v:Value):mix lo hi (e.set 99999 v) b=mix lo hi e b:=by
 funext i
 simp only[mix,Env.set];split
 ·rfl
 ·rename_i hn;have:¬ i=99999:=fun h=>hn (.inl h)
  simp[this]
theorem Ed(lo hi i:Nat)(e b:Env)(v:Value)(h1:lo≤i)(h2:i < hi):mix lo hi (e.set i v) b=mix lo hi e b:=by
 funext j
 simp only[mix,Env.set];split
 ·rfl
 ·rename_i hn;have:¬ j=i:=fun h=>hn (.inr ⟨by omega,by omega⟩)
  simp[this]
theorem BC(lo hi i:Nat)(e b:Env)(v:Value)(h1:(i == 99999)=false)(h2:i < lo):mix lo hi (e.set i v) b=(mix lo hi e b).set i v:=by
 funext j
 have h1':¬ i=99999:=by simpa using h1
 simp only[mix,Env.set];by_cases hj:j=i
 ·subst hj;simp[h1',h2];omega
 ·simp[hj]
theorem Fd(lo hi i:Nat)(e b:Env)(v:Value)(h1:(i == 99999)=false)(h2:hi≤i):mix lo hi (e.set i v) b=(mix lo hi e b).set i v:=by
 funext j
 have h1':¬ i=99999:=by simpa using h1
 simp only[mix,Env.set];by_cases hj:j=i
 ·subst hj;simp[h1'];omega
 ·simp[hj]
theorem FH(lo hi i:Nat)(e b:Env)(h1:(i == 99999)=false)(h2:i < lo):mix lo hi e b i=e i:=by
 have h1':¬ i=99999:=by simpa using h1
 simp only[mix,h1',false_or];rw[if_neg (by omega)]
theorem F4(lo hi i:Nat)(e b:Env)(h1:(i == 99999)=false)(h2:hi≤i):mix lo hi e b i=e i:=by
 have h1':¬ i=99999:=by simpa using h1
 simp only[mix,h1',false_or];rw[if_neg (by omega)]
attribute [push_cast] FH F4
def keep(e:Env):Kh→Env→Env
 | [],b=>b
 | i :: is,b=>(keep e is b).set i (e i)
theorem xo(e:Env)(is:Kh):keep e is e=e:=by
 induction is with
 | nil=>rfl
 | cons i is ih=>rw[keep,ih];exact ir rfl
theorem zh(e b:Env):keep e [] b=b:=rfl
theorem vo(e b:Env)(i:Nat)(is:Kh):keep e (i :: is) b=(keep e is b).set i (e i):=rfl
def doB(v:Value)(A B:Prop):Prop :=
 match v with
 | .bool t=>(t=true→A)∧(t=false→B)
 | _=>False
theorem GI(A B:Prop):doB (.bool true) A B=A:=by simp[doB]
theorem Hl(A B:Prop):doB (.bool false) A B=B:=by simp[doB]
theorem gb{t:Bool}{A B:Prop}(h1:t=true→A)(h2:t=false→B):doB (.bool t) A B:=⟨h1,h2⟩
section rules
variable {r:Kk} {P:Program} {N:Nat} {rs vs:Kh} {Q:Exit→Kj} {e:Env} {h:H} {fr:List Td}
theorem Bo:kS r P N rs vs Q fr .ret e h=Q .ret e h:=by
 induction fr with
 | nil=>rfl
 | cons f fr ih=>cases f <;> exact ih
theorem dI{s:SC}(hk:go r P N rs vs Q [.s s] e h):wK r P N rs vs s Q e h:=hk
theorem dx{x y:SC}(hk:go r P N rs vs Q (.s x :: .s y :: fr) e h):go r P N rs vs Q (.s (.seq x y) :: fr) e h :=
 FP fun _ hK=>iK (Q:=kS r P N rs vs Q (.s y :: fr)) hk fun x e h hq=>by cases x <;> first | exact hK e h hq | exact hq
theorem J4{l:J7}(lo hi:Nat)(hN:N≤99999)(hk:dD P l e h fun e h=>∀ b,go r P N rs vs Q fr (mix lo hi e b) h):go r P N rs vs Q (.s (.reg false l) :: fr) e h :=
 iK (Q:=fun x e h=>∀ b,kS r P N rs vs Q fr x (mix lo hi e b) h) (F8 hN hk) fun x e h hq=>by
  have:=hq e;rw[ti]at this;cases x <;> exact this
theorem uS{l:J7}(lo hi:Nat)(hN:N≤99999)(hk:dP P l e h fun e=>∀ b,go r P N rs vs Q fr (mix lo hi e b) h):go r P N rs vs Q (.s (.reg true l) :: fr) e h :=
 iK (Q:=fun x e h=>∀ b,kS r P N rs vs Q fr x (mix lo hi e b) h) (C7 hN hk) fun x e h hq=>by
  have:=hq e;rw[ti]at this;cases x <;> exact this
theorem Gr{l1 l2:J7}(hN:N≤99999)(hk:dP P l1 e h fun e=>dD P l2 e h fun e h=>go r P N rs vs Q fr e h):go r P N rs vs Q (.s (.rgT l1 l2) :: fr) e h :=
 iK (Q:=kS r P N rs vs Q fr) (FJ hN hk) fun x e h hq=>by cases x <;> exact hq
theorem nP{l:List (Bool × SI)}(L1:J9)(hL:L1.Sublist h.L)(hN:N≤99999)(hk:dQ P ⟨h.G,L1,h.D⟩ l e h fun e h=>go r P N rs vs Q fr e h):go r P N rs vs Q (.s (.rgX l) :: fr) e h :=
 iK (Q:=kS r P N rs vs Q fr) (EX hN L1 hL hk) fun x e h hq=>by cases x <;> exact hq
theorem AY{t:RX}(L1:J9)(hL:L1.Sublist h.L)(hN:N≤99999)(hk:hY P ⟨h.G,L1,h.D⟩ t e h fun e h=>go r P N rs vs Q fr e h):go r P N rs vs Q (.s (.rgZ t) :: fr) e h :=
 iK (Q:=kS r P N rs vs Q fr) (F9 hN L1 hL hk) fun x e h hq=>by cases x <;> exact hq
theorem D5{l:List (Bool × SI)}{l2:J7}(L1:J9)(hL:L1.Sublist h.L)(hN:N≤99999)(hk:dQ P ⟨h.G,L1,h.D⟩ l e h fun e h=>dD P l2 e h fun e h=>go r P N rs vs Q fr e h):go r P N rs vs Q (.s (.rgY l l2) :: fr) e h :=
 iK (Q:=kS r P N rs vs Q fr) (Es hN L1 hL hk) fun x e h hq=>by cases x <;> exact hq
theorem qY{l:List WI}(L1:J9)(hL:L1.Sublist h.L)(hN:N≤99999)(hk:dZ P ⟨h.G,L1,h.D⟩ l e h fun e h=>go r P N rs vs Q fr e h):go r P N rs vs Q (.s (.rgW l) :: fr) e h :=
 iK (Q:=kS r P N rs vs Q fr) (F2 hN L1 hL hk) fun x e h hq=>by cases x <;> exact hq
theorem ek(hk:go r P N rs vs Q fr e h):go r P N rs vs Q (.s .skip :: fr) e h:=CF hk
theorem EO{l:Nat}(hk:go r P N rs vs Q fr e h):go r P N rs vs Q (.s (.lab l) :: fr) e h:=D9 hk
theorem dS{id:Nat}(hk:kS r P N rs vs Q fr (.exit id) e h):go r P N rs vs Q (.s (.exit id) :: fr) e h:=BU hk
theorem dG(hk:Q .ret e h):go r P N rs vs Q (.s .ret :: fr) e h:=FQ (by rw[Bo];exact hk)
theorem Jo{o:O}{x y:SC}(hk:doB (ev e o) (go r P N rs vs Q (.s x :: fr) e h) (go r P N rs vs Q (.s y :: fr) e h)):go r P N rs vs Q (.s (.cond o x y) :: fr) e h:=by
 unfold doB at hk;split at hk
 ·rename_i t ht;exact CU ht hk.1 hk.2
 ·exact hk.elim
theorem Bp{id:Nat}{x:SC}(hk:go r P N rs vs Q (.s x :: .b id :: fr) e h):go r P N rs vs Q (.s (.blk id x) :: fr) e h:=FM hk
theorem kl{id:Nat}(hk:go r P N rs vs Q fr e h):go r P N rs vs Q (.b id :: fr) e h:=hk
theorem Fl{x:SC}(hk:go none P N rs vs Q (.s x :: .n :: fr) e h):go none P N rs vs Q (.s (.scp x) :: fr) e h:=Ef hk
theorem J2(hk:go r P N rs vs Q fr e h):go r P N rs vs Q (.n :: fr) e h:=hk
theorem ej{I:Kj}(hk:I e h):go r P N rs vs Q (.l I :: fr) e h:=hk
theorem fU(hk:Q .normal e h):go r P N rs vs Q [] e h:=hk
theorem dV{x:SC}(I:Kj)(μ:Env→H→Nat)(h0:I e h)(round:∀ e h,I e h→go r P N rs vs Q (.s x :: .l (fun e' h'=>I e' h'∧μ e' h' < μ e h) :: fr) e h):go r P N rs vs Q (.s (.loop x) :: fr) e h :=
 CG I μ h0 round
theorem dA{h':H}{s:SC}(hg:iH h h')(hk:go r P N rs vs Q (.s s :: fr) e h'):go r P N rs vs Q (.s s :: fr) e h:=yx hg hk
theorem ez{s:SC}(M:Kj)(h1:go r P N rs vs Q (.s s :: .l M :: fr) e h)(h2:∀ e h,M e h→go r P N rs vs Q fr e h):go r P N rs vs Q (.s s :: fr) e h :=
 iK (Q:=kS r P N rs vs Q (.l M :: fr)) h1 fun x e h hq=>by cases x <;> first | exact h2 e h hq | exact hq
theorem dC(is:Kh)(hk:∀ b,go r P N rs vs Q fr (keep e is b) h):go r P N rs vs Q fr e h:=by
 have:=hk e
 rwa [xo]at this
theorem J3{x:SC}{i:Nat}:kS r P N rs vs Q (.s x :: fr) (.exit i) e h=kS r P N rs vs Q fr (.exit i) e h:=rfl
theorem J1{i:Nat}:kS r P N rs vs Q (.n :: fr) (.exit i) e h=kS r P N rs vs Q fr (.exit i) e h:=rfl
theorem JZ{I:Kj}{i:Nat}:kS r P N rs vs Q (.l I :: fr) (.exit i) e h=kS r P N rs vs Q fr (.exit i) e h:=rfl
theorem JF{i j:Nat}(hij:(i == j)=true):kS r P N rs vs Q (.b j :: fr) (.exit i) e h=go r P N rs vs Q fr e h:=by
 have:i=j:=by simpa using hij
 subst this;simp[kS,DX,go]
theorem JN{i j:Nat}(hij:(i == j)=false):kS r P N rs vs Q (.b j :: fr) (.exit i) e h=kS r P N rs vs Q fr (.exit i) e h:=by
 have:¬ i=j:=by simpa using hij
 simp[kS,DX,this]
end rules
theorem GW{P:Program}{b:Bool}{s:SOp}{c:Kk}{k d:Nat}{l:J7}{e:Env}{h:H}{K:Kj}:gdY P undef b s c k d l e h K=dD P l (e.set k undef) h K:=rfl
theorem HD{P:Program}{b:Bool}{s:SOp}{c:Kk}{k d:Nat}{l:J7}{e:Env}{h:H}{K:Env→Prop}:gqY P undef b s c k d l e h K=dP P l (e.set k undef) h K:=rfl
attribute [push_cast] GW HD
theorem zd(t q:Bool):nR (.bool t) (.bool true) (.bool q)=some (.bool (t || q)):=by cases t <;> rfl
theorem xb(t p:Bool):nR (.bool t) (.bool p) (.bool false)=some (.bool (t && p)):=by cases t <;> rfl
attribute [push_cast] zd xb Bool.false_or Bool.true_or Bool.or_true Bool.or_false Bool.false_and Bool.and_false Bool.false_eq_true
theorem zr(cs:J6):lm [] cs=some cs:=rfl
theorem vB(o n:Nat)(xs cs:J6)(r:List (Nat × Nat × J6))(h1:(xs.length == n)=true)(h2:o+n≤cs.length):lm ((o,n,xs) :: r) cs=lm r (splice cs o xs):=by
 simp only[lm];rw[if_pos ⟨by simpa using h1,h2⟩]
attribute [push_cast] decide_true decide_false zr vB
theorem H9(k:IntKind)(a b:Int):mmV false (.int k a) (.int k b)=some (.int k (min a b)):=by
 simp only[mmV,Bool.false_eq_true,if_false];congr 2;omega
theorem IB(k:IntKind)(a b:Int):mmV true (.int k a) (.int k b)=some (.int k (max a b)):=by
 simp only[mmV,if_true];congr 2;omega
attribute [push_cast] H9 IB GI Hl Ie Ed BC Fd zh vo J3 JZ JF JN J1
def gxX(P:Program)(h1:H)(v:Value)(b t:Bool)(s:SOp)(c:Kk)(d k:Nat)(l:List (Bool × SI))(e:Env)(h:H)(K:Kj):Prop :=
 match v with
 | .bool t'=>if t'=b then dQ P h1 ((t,⟨none,s,c,0⟩) :: l) (e.set d (.bool b)) h K else dQ P h1 l ((e.set d (.bool !b)).set k undef) h K
 | _=>dQ P h1 l (e.set k undef) h K
section
variable {P:Program} {e:Env} {h h1:H} {K:Kj} {l:List (Bool × SI)} {k d:Nat} {c:Kk} {s:SOp} {t b:Bool}
theorem E7:dQ P h1 [] e h K=K e h:=rfl
theorem Jz:dQ P h1 ((true,⟨none,s,c,k⟩) :: l) e h K=dP P [⟨none,s,c,k⟩] e h1 fun e=>dQ P h1 l e h K:=rfl
theorem JK:dQ P h1 ((false,⟨none,s,c,k⟩) :: l) e h K=dD P [⟨none,s,c,k⟩] e h fun e h=>nL h1 h∧dQ P h1 l e h K:=rfl
theorem JC:dQ P h1 ((t,⟨some (d,b),s,c,k⟩) :: l) e h K=gxX P h1 (e d) b t s c d k l e h K:=by
 have h0:dQ P h1 ((t,⟨some (d,b),s,c,k⟩) :: l) e h K=if gOk (e d) b=true then dQ P h1 ((t,⟨none,s,c,0⟩) :: l) e h K else dQ P h1 l (e.set k undef) h K:=by
  cases t <;> rfl
 rw[h0];simp only[gxX];cases hv:e d <;> simp only[gOk,Bool.false_eq_true,if_false];rename_i t';by_cases ht:t'=b
 ·subst ht;simp only[beq_self_eq_true,if_true];rw[ir hv]
 ·have:(t' == b)=false:=by simpa using ht
  have h2:(!b)=t':=by cases t' <;> cases b <;> first | rfl | exact absurd rfl ht
  simp only[this,Bool.false_eq_true,if_false,ht];rw[h2,ir hv]
theorem Fu:gxX P h1 (.bool true) true t s c d k l e h K=dQ P h1 ((t,⟨none,s,c,0⟩) :: l) (e.set d (.bool true)) h K:=by simp[gxX]
theorem EV:gxX P h1 (.bool false) false t s c d k l e h K=dQ P h1 ((t,⟨none,s,c,0⟩) :: l) (e.set d (.bool false)) h K:=by simp[gxX]
theorem E4:gxX P h1 (.bool true) false t s c d k l e h K=dQ P h1 l ((e.set d (.bool true)).set k undef) h K:=by simp[gxX]
theorem Ee:gxX P h1 (.bool false) true t s c d k l e h K=dQ P h1 l ((e.set d (.bool false)).set k undef) h K:=by simp[gxX]
theorem Hq:gxX P h1 undef b t s c d k l e h K=dQ P h1 l (e.set k undef) h K:=rfl
theorem gx{t':Bool}(p1:t'=true→gxX P h1 (.bool true) b t s c d k l e h K)(p2:t'=false→gxX P h1 (.bool false) b t s c d k l e h K):gxX P h1 (.bool t') b t s c d k l e h K:=by
 cases t'
 ·exact p2 rfl
 ·exact p1 rfl
theorem By:hY P h1 (.leaf l) e h K=dQ P h1 l e h K:=rfl
theorem Hg{x y:RX}{u v:SI}:hY P h1 (.br l u x v y) e h K=dQ P h1 l e h fun e h=>(dQ P h1 [(false,u)] e h fun e h=>hY P h1 x e h K)∧(dQ P h1 [(false,v)] e h fun e h=>hY P h1 y e h K):=rfl
theorem j9{G G':J5}{L:J9}{D:Kh}(hg:∀ b o,G b=some o→G' b=some o):nL ⟨G,L,D⟩ ⟨G',L,D⟩:=⟨hg,List.Sublist.refl _,rfl⟩
theorem dO{G G':J5}{L L':J9}{D:Kh}(hg:∀ b o,G b=some o→G' b=some o)(hL:L.Sublist L'):nL ⟨G,L,D⟩ ⟨G',L',D⟩:=⟨hg,hL,rfl⟩
theorem En{G:J5}{L:J9}{D:Kh}:nL ⟨G,L,D⟩ ⟨G,L,D⟩:=⟨Kp,List.Sublist.refl _,rfl⟩
theorem BF{G:J5}{L:J9}{D:Kh}:nL ⟨G,L,D⟩ ⟨G,L,D⟩=True:=eq_true En
attribute [push_cast] By Hg E7 Jz JK JC Fu EV E4 Ee Hq BF
end
def gwX(P:Program)(h1:H)(v:Value)(b t z:Bool)(s:SOp)(c:Kk)(d k:Nat)(l:List WI)(e:Env)(h:H)(K:Kj):Prop :=
 match v with
 | .bool t'=>if t'=b then dZ P h1 ((t,z,⟨none,s,c,0⟩) :: l) (e.set d (.bool b)) h K else dZ P h1 l ((e.set d (.bool !b)).set k undef) h K
 | _=>dZ P h1 l (e.set k undef) h K
def BL(P:Program)(l:List WI)(e:Env)(h:H)(K:Kj):Prop:=∃ L1,L1.Sublist h.L∧dZ P ⟨h.G,L1,h.D⟩ l e h K
section
variable {P:Program} {e:Env} {h h1:H} {K:Kj} {l:List WI} {k d:Nat} {c:Kk} {s:SOp} {t b z:Bool}
theorem fX(hk:dZ P ⟨h.G,h.L,h.D⟩ l e h K):BL P l e h K:=⟨h.L,List.Sublist.refl _,hk⟩
theorem Cs:BL P [] e h K=K e h:=propext ⟨fun⟨_,_,hk⟩=>hk,fun hk=>⟨h.L,List.Sublist.refl _,hk⟩⟩
theorem Eh:dZ P h1 [] e h K=K e h:=rfl
theorem JG:dZ P h1 ((true,z,⟨none,s,c,k⟩) :: l) e h K=dP P [⟨none,s,c,k⟩] e h1 fun e=>dZ P h1 l e h K:=by cases z <;> rfl
theorem JW:dZ P h1 ((false,false,⟨none,s,c,k⟩) :: l) e h K=dD P [⟨none,s,c,k⟩] e h fun e h=>nL h1 h∧dZ P h1 l e h K:=rfl
theorem Jm:dZ P h1 ((false,true,⟨none,s,c,k⟩) :: l) e h K=dD P [⟨none,s,c,k⟩] e h fun e h=>BL P l e h K:=rfl
theorem Ju:dZ P h1 ((t,z,⟨some (d,b),s,c,k⟩) :: l) e h K=gwX P h1 (e d) b t z s c d k l e h K:=by
 have h0:dZ P h1 ((t,z,⟨some (d,b),s,c,k⟩) :: l) e h K=if gOk (e d) b=true then dZ P h1 ((t,z,⟨none,s,c,0⟩) :: l) e h K else dZ P h1 l (e.set k undef) h K:=by
  cases t <;> cases z <;> rfl
 rw[h0];simp only[gwX];cases hv:e d <;> simp only[gOk,Bool.false_eq_true,if_false];rename_i t';by_cases ht:t'=b
 ·subst ht;simp only[beq_self_eq_true,if_true];rw[ir hv]
 ·have:(t' == b)=false:=by simpa using ht
  have h2:(!b)=t':=by cases t' <;> cases b <;> first | rfl | exact absurd rfl ht
  simp only[this,Bool.false_eq_true,if_false,ht];rw[h2,ir hv]
theorem EJ:gwX P h1 (.bool true) true t z s c d k l e h K=dZ P h1 ((t,z,⟨none,s,c,0⟩) :: l) (e.set d (.bool true)) h K:=by simp[gwX]
theorem Fc:gwX P h1 (.bool false) false t z s c d k l e h K=dZ P h1 ((t,z,⟨none,s,c,0⟩) :: l) (e.set d (.bool false)) h K:=by simp[gwX]
theorem FB:gwX P h1 (.bool true) false t z s c d k l e h K=dZ P h1 l ((e.set d (.bool true)).set k undef) h K:=by simp[gwX]
theorem Gf:gwX P h1 (.bool false) true t z s c d k l e h K=dZ P h1 l ((e.set d (.bool false)).set k undef) h K:=by simp[gwX]
theorem HN:gwX P h1 undef b t z s c d k l e h K=dZ P h1 l (e.set k undef) h K:=rfl
attribute [push_cast] Eh JG JW Jm Ju EJ Fc FB Gf HN Cs
end
abbrev Kc:=List Td
end Go.Kx
namespace Go.Kx
open Go Go.RowKit
open List (getElem?_eq_getElem mem_of_getElem? length_append append_nil append_assoc length_cons take_length)
def eD(h:H)(M:H→Prop):Prop:=∀ β w,Sat β h w→∃ h',M h'∧Sat β h' w∧Step β h w β h' w∧(h'.D=h.D∧gp h' h)
theorem eD.mono{h:H}{M M':H→Prop}(hg:eD h M)(hm:∀ h',M h'→M' h'):eD h M':=fun β w s=>by
 obtain⟨h',a,b⟩:=hg β w s;exact⟨h',hm _ a,b⟩
theorem eD.of{h h':H}(hg:iH h h'):eD h (· = h'):=fun β w s=>by
 obtain⟨a,b,c⟩:=hg β w s;exact⟨h',rfl,a,b,c⟩
theorem eD.id{h:H}{M:H→Prop}(hm:M h):eD h M:=fun β w s=>⟨h,hm,s,.refl _ _ _,rfl,.refl _⟩
theorem eD.trans{h:H}{M M':H→Prop}(hg:eD h M)(hm:∀ h',M h'→eD h' M'):eD h M':=fun β w s=>by
 obtain⟨h1,a,s1,t1,d1,r1⟩:=hg β w s;obtain⟨h2,a2,s2,t2,d2,r2⟩:=hm h1 a β w s1;exact⟨h2,a2,s2,t1.trans t2,d2.trans d1,r1.trans r2⟩
theorem eh.gx{P f args h}{R R':Value→H→Prop}(hc:eh P f args h R)(hr:∀ v h',R v h'→eD h' (R' v)):eh P f args h R' :=
 ⟨hc.1,fun β w hs=>(hc.2 β w hs).mono fun _ _ ⟨v,h',a,⟨b1,b2⟩,c,d,r⟩=>by
  obtain⟨h2,a2,s2,t2,d2,r2⟩:=hr _ _ r β _ c
  exact⟨v,h2,a,⟨d2.trans b1,b2.trans r2⟩,s2,d.trans t2,a2⟩⟩
section rules
variable {r:Kk} {P:Program} {N:Nat} {rs vs:Kh} {Q:Exit→Kj} {e:Env} {h:H} {fr:Kc}
theorem FR{c:Code}{M:H→Prop}(hg:eD h M)(hc:∀ h',M h'→wpH r P N rs vs c Q e h'):wpH r P N rs vs c Q e h:=by
 intro β a w hr hs;obtain⟨h',m,g1,g2,g3,g4⟩:=hg β w hs;refine wpIn_mono (hc h' m β a w (hr.to g4 g3) g1) ?_;rintro x a' w' ⟨β',e',h'',r',s',st',q⟩;exact⟨β',e',h'',r',s',g2.trans st',q⟩
theorem ei{M:H→Prop}{s:SC}(hg:eD h M)(hk:∀ h',M h'→go r P N rs vs Q (.s s :: fr) e h'):go r P N rs vs Q (.s s :: fr) e h:=fun c hs=>FR hg fun h' m=>hk h' m c hs
end rules
theorem gL(b j:Nat):Addr.add ⟨b,0,none⟩ j=⟨b,j,none⟩:=by
 unfold Addr.add;split
 ·rename_i h;subst h;rfl
 ·simp
theorem sE(G:J5)(b j:Nat)(c:Array Value)(t:TypeId)(z:Nat × Nat):eZ (fun i=>if i=b then some (.cells c t z)else G i) ⟨b,j,none⟩=c[j]?:=by
 simp[eZ]
theorem js{G:J5}{L:J9}{D:Kh}{b:Nat}{cs:J6}:
  eD ⟨G,.blk b cs :: L,D⟩ fun h'=>∃ G',h'=⟨G',L,D⟩∧Gle G G'∧∀ j u,cs[j]?=some u→eZ G' (Addr.add ⟨b,0,none⟩ j)=some u:=fun β w s=>by
 obtain⟨t,ht⟩:=s.l (.blk b cs) (List.mem_cons_self ..);obtain⟨s1,st⟩:=ob s (b:=b) rfl ht;refine⟨_,⟨_,rfl,st.gm,fun j u hu=>?_⟩,s1,st,rfl,fun s cs h=>⟨cs,List.mem_cons_of_mem _ h⟩⟩;rw[gL,sE];simpa using hu
theorem ER{G:J5}{L:J9}{D:Kh}{v:Value}{et:TypeId}{sz n:Nat}{xs:J6}:
  eD ⟨G,.row v et sz n xs :: L,D⟩ fun h'=>∃ G',h'=⟨G',L,D⟩∧Gle G G'∧xs.length=n * sz∧∃ A c,v=.slice A n c∧n≤c∧c≤maxLen∧∀ j u,xs[j]?=some u→∃ a,A=some a∧eZ G' (a.add j)=some u:=fun β w s=>by
 obtain⟨hl,hok⟩:=s.l (.row v et sz n xs) (List.mem_cons_self ..);rcases hok with⟨A,rfl,rfl⟩ | ⟨g,cap,cur,rfl,hc,hg,hn,hm,hsz,htk⟩
 ·have hx:xs=[]:=by simpa using hl
  subst hx;obtain⟨s1,st,d1,r1⟩:=dE (G:=G) (D:=D) (List.sublist_cons_self (.row (.slice A 0 0) et sz 0 []) L) β w s;refine⟨_,⟨G,rfl,.refl G,by simp,A,0,rfl,Nat.le_refl _,Nat.zero_le _,fun j u hu=>by simp at hu⟩,s1,st,d1,r1⟩
 ·have hc':¬ cap=0:=by omega
  obtain⟨s1,st⟩:=ob s (b:=g) (by simp[Item.block,ed,hc']) hg;refine⟨_,⟨_,rfl,st.gm,hl,_,_,rfl,hn,hm,fun j u hu=>⟨_,rfl,?_⟩⟩,s1,st,rfl,fun s cs h=>⟨cs,List.mem_cons_of_mem _ h⟩⟩;subst htk;rw[List.getElem?_take]at hu;split at hu
  ·rw[gL,sE];simpa using hu
  ·cases hu
inductive Cells {α:Type} (E:α→J6→Prop) (sz:Nat):List α→J6→Prop
 | nil:Cells E sz [] []
 | cons {x:α} {xs:List α} {cs ys:J6} (hE:E x cs) (hl:cs.length=sz) (ht:Cells E sz xs ys):Cells E sz (x :: xs) (cs++ys)
namespace Cells
variable {α:Type} {E:α→J6→Prop} {sz:Nat} {xs xs':List α} {ys ys':J6}
theorem len(h:Cells E sz xs ys):ys.length=xs.length * sz:=by
 induction h with
 | nil=>simp
 | cons hE hl ht ih=>rw[length_append,ih,hl,length_cons,Nat.add_mul,Nat.one_mul,Nat.add_comm]
theorem app(h:Cells E sz xs ys)(h':Cells E sz xs' ys'):Cells E sz (xs++xs') (ys++ys'):=by
 induction h with
 | nil=>exact h'
 | cons hE hl ht ih=>rw[append_assoc];exact .cons hE hl ih
theorem one{x:α}{cs:J6}(hE:E x cs)(hl:cs.length=sz):Cells E sz [x] cs:=by
 have:=Cells.cons hE hl .nil;simpa using this
theorem split(h:Cells E sz xs ys)(k:Nat)(hk:k≤xs.length):Cells E sz (xs.take k) (ys.take (k * sz))∧Cells E sz (xs.drop k) (ys.drop (k * sz)):=by
 induction h generalizing k with
 | nil=>simp at hk;subst hk;simp;exact .nil
 | cons hE hl ht ih =>
  cases k with
  | zero=>simp;exact⟨.nil,.cons hE hl ht⟩
  | succ k =>
   obtain⟨a,b⟩:=ih k (by simpa using hk);rename_i cs ys;have e1:(k+1) * sz=cs.length+k * sz:=by rw[Nat.add_mul,Nat.one_mul,hl,Nat.add_comm]
   rw[e1,List.take_length_add_append,List.drop_length_add_append];exact⟨.cons hE hl a,b⟩
theorem get(h:Cells E sz xs ys){k:Nat}{x:α}(hx:xs[k]?=some x):∃ cs,E x cs∧cs.length=sz∧∀ o u,cs[o]?=some u→ys[k * sz+o]?=some u:=by
 induction h generalizing k with
 | nil=>simp at hx
 | cons hE hl ht ih =>
  rename_i x0 xs0 cs0 ys0;cases k with
  | zero =>
   simp at hx;subst hx;refine⟨_,hE,hl,fun o u hu=>?_⟩;rw[Nat.zero_mul,Nat.zero_add,List.getElem?_append_left (List.getElem?_eq_some_iff.1 hu).1];exact hu
  | succ k =>
   obtain⟨cs,a,b,c⟩:=ih (by simpa using hx);refine⟨cs,a,b,fun o u hu=>?_⟩;have e1:(k+1) * sz+o=cs0.length+(k * sz+o):=by rw[Nat.add_mul,Nat.one_mul,hl];omega
   rw[e1,List.getElem?_append_right (by omega),Nat.add_sub_cancel_left];exact c o u hu
theorem slA{G:J5}{A:Ka}(h:Cells E sz xs ys)(hc:∀ j u,ys[j]?=some u→∃ a,A=some a∧eZ G (a.add j)=some u)(h0:0 < sz):SlA G E sz A xs:=fun i x hx=>by
 obtain⟨cs,h1,h2,h3⟩:=h.get hx;obtain⟨a,ha,_⟩:=hc (i * sz+0) _ (h3 0 (cs[0]'(by omega)) (getElem?_eq_getElem (by omega)));refine⟨a,cs,ha,h2,h1,fun j u hu=>?_⟩;obtain⟨a',ha',hc'⟩:=hc _ u (h3 j u hu);rw[ha]at ha';cases ha';exact hc'
end Cells
theorem kF{α:Type}{E:α→J6→Prop}{G:J5}{L:J9}{D:Kh}{v:Value}{et:TypeId}{sz n:Nat}{ys:J6}{xs:List α}(h0:0 < sz)(hc:Cells E sz xs ys):
  eD ⟨G,.row v et sz n ys :: L,D⟩ fun h'=>∃ G',h'=⟨G',L,D⟩∧Gle G G'∧SlV G' E sz v xs:=ER.mono fun h' ⟨G',h1,h2,h3,A,c,h4,h5,h6,h7⟩=>by
 have hn:n=xs.length:=by
  have:=hc.len;rw[h3]at this;exact Nat.eq_of_mul_eq_mul_right h0 this
 subst hn;exact⟨G',h1,h2,A,c,h4,h5,h6,hc.slA h7 h0⟩
theorem SlA.cells{α:Type}{E:α→J6→Prop}{sz:Nat}{G:J5}{A:Ka}{xs:List α}(h:SlA G E sz A xs)(hxs:xs≠[]→∃ a,A=some a):
  ∃ ys,Cells E sz xs ys∧∀ j u,ys[j]?=some u→∃ a,A=some a∧eZ G (a.add j)=some u:=by
 induction xs generalizing A with
 | nil=>exact⟨[],.nil,fun j u hu=>by simp at hu⟩
 | cons x xs ih =>
  obtain⟨a,cs,ha,h1,h2,h3⟩:=h 0 x rfl;subst ha;obtain⟨ys,h4,h5⟩:=ih (A:=some (a.add sz)) (fun i y hy=>by
   obtain⟨a',cs',ha',g1,g2,g3⟩:=h (i+1) y (by simpa using hy)
   cases ha'
   refine⟨_,cs',rfl,g1,g2,fun j u hu=>?_⟩
   have:=g3 j u hu
   rw[fl]
   rw[← this]
   congr 2
   rw[Nat.add_mul,Nat.one_mul]
   omega) (fun _=>⟨_,rfl⟩)
  refine⟨cs++ys,.cons h2 h1 h4,fun j u hu=>⟨a,rfl,?_⟩⟩;rw[List.getElem?_append]at hu;split at hu
  ·have:=h3 j u hu
   rwa [Nat.zero_mul,Nat.zero_add]at this
  ·obtain⟨a',ha',hc⟩:=h5 _ u hu;cases ha';rw[fl]at hc;rw[← hc];congr 2;omega
theorem SlV.src{α:Type}{E:α→J6→Prop}{sz:Nat}{G:J5}{v:Value}{xs:List α}(h:SlV G E sz v xs)(L:J9)(D:Kh)(h1:∀ x cs,E x cs→∀ u∈cs,u.oneCell'=true):
  ∃ ys,Cells E sz xs ys∧DW ⟨G,L,D⟩ v sz xs.length ys:=by
 obtain⟨A,c,rfl,hc,hm,hA⟩:=h;have hone:∀ {xs:List α} {ys:J6},Cells E sz xs ys→∀ u∈ys,u.oneCell'=true:=fun hcs=>by
  induction hcs with
  | nil=>simp
  | cons hE hl ht ih =>
   intro u hu;rcases List.mem_append.1 hu with h | h
   ·exact h1 _ _ hE u h
   ·exact ih u h
 obtain⟨ys,h2,h3⟩:=hA.cells (fun hne=>by
  match xs,hne with
  | x :: xs,_ =>
   obtain⟨a,_,ha,_⟩:=hA 0 x rfl
   exact⟨a,ha⟩)
 refine⟨ys,h2,hone h2,h2.len,?_⟩;cases A with
 | none =>
  refine .inl ⟨c,?_,?_⟩
  ·match xs,hA with
   | [],_=>rfl
   | x :: xs,hA=>obtain⟨a,_,ha,_⟩:=hA 0 x rfl;cases ha
  ·match xs,hA with
   | [],_=>rfl
   | x :: xs,hA=>obtain⟨a,_,ha,_⟩:=hA 0 x rfl;cases ha
 | some a =>
  refine .inr (.inl ⟨a,c,rfl,fun j u hu=>?_⟩);obtain⟨a',ha',hc'⟩:=h3 j u hu;cases ha';exact .g hc'
section forms
variable {P:Program} {f:FuncId} {args:Array Value} {G:J5} {rl:Kd}
theorem FnO.fnD{L1:J9}{R:(J5)→J9→Value→Prop}{R':(J5)→Value→Prop}(hf:FnO P f args G [] R)
  (hr:∀ G' L' v,R G' L' v→Gle G G'→∀ L D,eD ⟨G',L'++L,D⟩ fun h'=>∃ G2,h'=⟨G2,L,D⟩∧Gle G' G2∧R' G2 v):FnD P f args G R':=fun L D =>
 (hf L D).gx fun v h' ⟨G',L',he,hg,hR⟩=>by
  subst he;exact(hr G' L' v hR hg L D).mono fun h' ⟨G2,h1,h2,h3⟩=>⟨G2,h1,hg.trans h2,h3⟩
theorem dL{e:Env}{h:H}{R:Value→H→Prop}{out:J6}(L':J9)(hr:mc e h rl=some out)(hs:L'.Sublist h.L)(hn:dR L')(hv:R (sZ out) ⟨h.G,L',[]⟩):gl rl R .ret e h :=
 ⟨out,hr,⟨h.G,L',[]⟩,dE hs,hn,hv⟩
theorem dF{b:Nat}{cs:J6}{L:J9}(h:dR L):dR (.blk b cs :: L):=fun s cs' hm=>by
 rcases List.mem_cons.1 hm with h' | h'
 ·cases h'
 ·exact h s cs' h'
theorem dz{v:Value}{et:TypeId}{sz n:Nat}{xs:J6}{L:J9}(h:dR L):dR (.row v et sz n xs :: L):=fun s cs' hm=>by
 rcases List.mem_cons.1 hm with h' | h'
 ·cases h'
 ·exact h s cs' h'
end forms
end Go.Kx
namespace Go.Kx
open Go Go.RowKit
open List (getElem?_eq_getElem mem_of_getElem? length_append append_nil append_assoc length_cons take_length)
theorem eD.fact{h:H}{p:Prop}(hf:∀ β w,Sat β h w→p):eD h fun h'=>h'=h∧p:=fun β w s=>⟨h,⟨rfl,hf β w s⟩,s,.refl _ _ _,rfl,.refl _⟩
theorem kI{h:H}{v:Value}{et:TypeId}{sz n:Nat}{xs:J6}(hm:Item.row v et sz n xs∈h.L)(hn:0 < n):
  eD h fun h'=>h'=h∧∃ g c,v=.slice (some ⟨g,0,none⟩) n c∧n≤c∧c≤maxLen:=eD.fact fun β w s=>by
 obtain⟨hl,hok⟩:=s.l _ hm;rcases hok with⟨A,rfl,rfl⟩ | ⟨g,cap,cur,rfl,hc,hg,hn,hm,hsz,htk⟩
 ·omega
 ·exact⟨g,cap,rfl,hn,hm⟩
theorem gU{h:H}{v:Value}{et:TypeId}{sz n:Nat}{xs:J6}(hm:Item.row v et sz n xs∈h.L):
  eD h fun h'=>h'=h∧∃ A c,v=.slice A n c∧n≤c∧c≤maxLen:=eD.fact fun β w s=>by
 obtain⟨hl,hok⟩:=s.l _ hm;rcases hok with⟨A,rfl,rfl⟩ | ⟨g,cap,cur,rfl,hc,hg,hn,hm,hsz,htk⟩
 ·exact⟨A,0,rfl,Nat.le_refl _,Nat.zero_le _⟩
 ·exact⟨_,cap,rfl,hn,hm⟩
section loads
variable {α:Type} {G:J5} {E:α→J6→Prop} {sz:Nat} {A:Ka} {xs:List α} {P:Program} {h:H} {d:Nat} {l:J7}
theorem SlA.lt{k:Nat}{x:α}(hx:xs[k]?=some x):(k:Int) < xs.length:=by
 have:=(List.getElem?_eq_some_iff.1 hx).1;omega
theorem SlA.x_ld{K:Kj}{e:Addr→Env}{j:Int}{k:Nat}{x:α}(hA:SlA G E sz A xs)(hx:xs[k]?=some x)(hj:j=k)(hG:h.G=G)
  (hk:∀ a,A=some a→∀ cs,E x cs→kR P l d (e a) K (.agg cs.toArray) h):(0≤j∧j < xs.length)∧∃ a,A=some a∧ldX P (.pointer (some (a.add (j.toNat * sz)))) (some sz) d l (e a) h K:=by
 obtain⟨G',L,D⟩:=h;dsimp only at hG;subst hG;obtain⟨a,cs,ha,hE,_,hld,_⟩:=hA.at_ hx L D;have:=SlA.lt hx;subst hj;exact⟨by omega,a,ha,_,by simpa using hld,hk a ha cs hE⟩
theorem SlA.x_lf{K:Kj}{e:Addr→Env}{j:Int}{k o:Nat}{u:Value}{x:α}(hA:SlA G E sz A xs)(hx:xs[k]?=some x)(hj:j=k)(hG:h.G=G)(hu:∀ cs,E x cs→cs[o]?=some u)
  (hk:∀ a,A=some a→kR P l d (e a) K u h):(0≤j∧j < xs.length)∧∃ a,A=some a∧ldX P (.pointer (some ((a.add (j.toNat * sz)).add o))) none d l (e a) h K:=by
 obtain⟨G',L,D⟩:=h;dsimp only at hG;subst hG;obtain⟨a,cs,ha,hE,_,_,hld⟩:=hA.at_ hx L D;have:=SlA.lt hx;subst hj;exact⟨by omega,a,ha,_,by simpa using hld o u (hu cs hE),hk a ha⟩
theorem SlA.x_l1{K:Kj}{e:Addr→Env}{j:Int}{k:Nat}{x:α}(hA:SlA G E 1 A xs)(hx:xs[k]?=some x)(hj:j=k)(hG:h.G=G)
  (hk:∀ a,A=some a→∀ u,E x [u]→kR P l d (e a) K u h):(0≤j∧j < xs.length)∧∃ a,A=some a∧ldX P (.pointer (some (a.add (j.toNat * 1)))) none d l (e a) h K:=by
 obtain⟨G',L,D⟩:=h;dsimp only at hG;subst hG;obtain⟨a,u,ha,hE,hld⟩:=hA.at1 hx L D;have:=SlA.lt hx;subst hj;exact⟨by omega,a,ha,_,by simpa using hld,hk a ha u hE⟩
theorem SlA.y_ld{K:Env→Prop}{e:Addr→Env}{j:Int}{k:Nat}{x:α}(hA:SlA G E sz A xs)(hx:xs[k]?=some x)(hj:j=k)(hG:h.G=G)
  (hk:∀ a,A=some a→∀ cs,E x cs→kQ P l d (e a) h K (.agg cs.toArray)):(0≤j∧j < xs.length)∧∃ a,A=some a∧lqX P (.pointer (some (a.add (j.toNat * sz)))) (some sz) d l (e a) h K:=by
 obtain⟨G',L,D⟩:=h;dsimp only at hG;subst hG;obtain⟨a,cs,ha,hE,_,hld,_⟩:=hA.at_ hx L D;have:=SlA.lt hx;subst hj;exact⟨by omega,a,ha,_,by simpa using hld,hk a ha cs hE⟩
theorem SlA.y_lf{K:Env→Prop}{e:Addr→Env}{j:Int}{k o:Nat}{u:Value}{x:α}(hA:SlA G E sz A xs)(hx:xs[k]?=some x)(hj:j=k)(hG:h.G=G)(hu:∀ cs,E x cs→cs[o]?=some u)
  (hk:∀ a,A=some a→kQ P l d (e a) h K u):(0≤j∧j < xs.length)∧∃ a,A=some a∧lqX P (.pointer (some ((a.add (j.toNat * sz)).add o))) none d l (e a) h K:=by
 obtain⟨G',L,D⟩:=h;dsimp only at hG;subst hG;obtain⟨a,cs,ha,hE,_,_,hld⟩:=hA.at_ hx L D;have:=SlA.lt hx;subst hj;exact⟨by omega,a,ha,_,by simpa using hld o u (hu cs hE),hk a ha⟩
theorem SlA.y_l1{K:Env→Prop}{e:Addr→Env}{j:Int}{k:Nat}{x:α}(hA:SlA G E 1 A xs)(hx:xs[k]?=some x)(hj:j=k)(hG:h.G=G)
  (hk:∀ a,A=some a→∀ u,E x [u]→kQ P l d (e a) h K u):(0≤j∧j < xs.length)∧∃ a,A=some a∧lqX P (.pointer (some (a.add (j.toNat * 1)))) none d l (e a) h K:=by
 obtain⟨G',L,D⟩:=h;dsimp only at hG;subst hG;obtain⟨a,u,ha,hE,hld⟩:=hA.at1 hx L D;have:=SlA.lt hx;subst hj;exact⟨by omega,a,ha,_,by simpa using hld,hk a ha u hE⟩
end loads
theorem my{α:Type}{E:α→J6→Prop}{G:J5}{P:Program}{h:H}{d:Nat}{l:J7}{e:Env}{K:Kj}{sz et nb n:Nat}{x y:Value}{xs:List α}{L1 L2:J9}{zs:J6}
  (hr:Ay h.L x et sz L1 n zs L2) (hy:SlV G E sz y xs) (hG:h.G=G) (h1:∀ x cs,E x cs→∀ u∈cs,u.oneCell'=true) (hb:(n+xs.length) * nb≤140737488355328∧n+xs.length≤maxLen)
  (hk:∀ ys A c,Cells E sz xs ys→kR P l d e K (.slice A (n+xs.length) c) { h with L:=L1++.row (.slice A (n+xs.length) c) et sz (n+xs.length) (zs++ys) :: L2 }):apX P x y et sz nb d l e h K:=by
 obtain⟨G',L,D⟩:=h;dsimp only at hG;subst hG;obtain⟨ys,hc,hs⟩:=hy.src L D h1;exact⟨L1,n,zs,L2,xs.length,ys,hr,hs,hb,fun A c=>hk ys A c hc⟩
theorem na{G:J5}{L1 L2:J9}{D:Kh}{A:Ka}{n c m et sz:Nat}{xs:J6}(hm:m≤n):
  iH ⟨G,L1++.row (.slice A n c) et sz n xs :: L2,D⟩ ⟨G,L1++.row (.slice A m c) et sz m (xs.take (m * sz)) :: L2,D⟩:=fun β w s=>by
 obtain⟨hl,hok⟩:=s.l (.row (.slice A n c) et sz n xs) (by simp);have hmn:m * sz≤n * sz:=Nat.mul_le_mul_right _ hm;have hblk:∀ b,ed (.slice A m c)=some b→ed (.slice A n c)=some b:=fun b h=>by
  cases A with
  | none=>simp[ed]at h
  | some a=>exact h
 obtain⟨s1,s2⟩:=jP (it':=.row (.slice A m c) et sz m (xs.take (m * sz))) s rfl rfl rfl (Nat.le_refl _) (fun _ _ _=>rfl) (by
  refine⟨by rw[List.length_take,hl,Nat.min_eq_left hmn],?_⟩
  rcases hok with⟨A',hA,rfl⟩ | ⟨g,cap,cur,hA,h1,h2,h3,h4,h5,h6⟩
  ·cases hA
   have:m=0:=by omega
   subst this
   exact .inl ⟨A,rfl,rfl⟩
  ·cases hA
   refine .inr ⟨g,c,cur,rfl,h1,h2,by omega,h4,h5,?_⟩
   rw[← h6,List.take_take,Nat.min_eq_left hmn]) (fun b hb=>.inl (hblk b hb))
 exact⟨s1,s2,rfl,kK (fun _ _ hc=>by cases hc)⟩
theorem kX{h:H}{g n c et sz m:Nat}{ys:J6}(hm:Item.row (.slice (some ⟨g,0,none⟩) n c) et sz m ys∈h.L)(h1:∀ u∈ys,u.oneCell'=true)(h2:ys.length=n * sz):DW h (.slice (some ⟨g,0,none⟩) n c) sz n ys :=
 ⟨h1,h2,.inr (.inl ⟨_,c,rfl,fun j u hu=>by rw[gL];exact .row hm hu⟩)⟩
theorem eV{h:H}{g n c et sz m i:Nat}{ys:J6}{v:Value}(hm:Item.row (.slice (some ⟨g,0,none⟩) n c) et sz m ys∈h.L)(hv:ys[i]?=some v):LdN h (.pointer (some ⟨g,i,none⟩)) none v :=
 ⟨_,rfl,.row hm hv⟩
theorem eA(b i j:Nat):Addr.add ⟨b,i,none⟩ j=⟨b,i+j,none⟩:=by
 unfold Addr.add;split
 ·rename_i h;subst h;rfl
 ·rfl
theorem fQ{P:Program}{h:H}{K:Kj}{l:J7}{e:Env}{g o n' c et sz n k:Nat}{xs ys:J6}(L1 L2:J9)(hL:h.L=L1++.row (.slice (some ⟨g,0,none⟩) n' c) et sz n ys :: L2)(ho:o+xs.length≤ys.length)
  (h1:xs.length=k∧xs.all (·.oneCell')=true) (hk:dD P l e { h with L:=L1++.row (.slice (some ⟨g,0,none⟩) n' c) et sz n (splice ys o xs) :: L2 } K):stX P (.pointer (some ⟨g,o,none⟩)) xs k l e h K:=by
 refine⟨_,?_,h1,hk⟩;rw[hL];exact .row L1 ho
theorem Cells.set{α:Type}{E:α→J6→Prop}{sz:Nat}{xs:List α}{ys:J6}(h:Cells E sz xs ys){k:Nat}{x:α}{cs:J6}(hk:k < xs.length)(hE:E x cs)(hl:cs.length=sz):Cells E sz (xs.set k x) (splice ys (k * sz) cs):=by
 obtain⟨a,-⟩:=h.split k (by omega);obtain⟨-,b⟩:=h.split (k+1) (by omega);have:splice ys (k * sz) cs=ys.take (k * sz)++(cs++ys.drop ((k+1) * sz)):=by
  rw[splice,hl,Nat.add_mul,Nat.one_mul,append_assoc]
 rw[this,List.set_eq_take_append_cons_drop,if_pos hk];exact a.app (.cons hE hl b)
theorem F3(n:Nat)(hn:0 < n)(hm:n≤maxLen):IntKind.i64.wrap ((n:Int) - 1)=((n - 1:Nat):Int):=by
 unfold maxLen at hm;rw[dX] <;> omega
def slY(P:Program)(A:Ka)(c:Nat)(lw u m:Option Int)(sz d:Nat)(l:J7)(e:Env)(h:H)(K:Kj):Prop :=
 match lw,u,m with
 | some lw,some u,some m=>(0≤lw∧lw≤u∧u≤m∧m≤c)∧kR P l d e K (.slice (if m.toNat=lw.toNat then A else A.map (·.add (lw.toNat * sz))) (u.toNat - lw.toNat) (m.toNat - lw.toNat)) h
 | _,_,_=>False
def sqY(P:Program)(A:Ka)(c:Nat)(lw u m:Option Int)(sz d:Nat)(l:J7)(e:Env)(h:H)(K:Env→Prop):Prop :=
 match lw,u,m with
 | some lw,some u,some m=>(0≤lw∧lw≤u∧u≤m∧m≤c)∧kQ P l d e h K (.slice (if m.toNat=lw.toNat then A else A.map (·.add (lw.toNat * sz))) (u.toNat - lw.toNat) (m.toNat - lw.toNat))
 | _,_,_=>False
section slicing
variable {P:Program} {A:Ka} {n c sz d:Nat} {l:J7} {e:Env} {h:H} {K:Kj} {Kq:Env→Prop} {lo hi mx:Option O}
theorem Hd:slX P (.slice A n c) lo hi mx sz d l e h K=slY P A c (bnd e 0 lo) (bnd e n hi) (bnd e c mx) sz d l e h K:=rfl
theorem HZ:sqX P (.slice A n c) lo hi mx sz d l e h Kq=sqY P A c (bnd e 0 lo) (bnd e n hi) (bnd e c mx) sz d l e h Kq:=rfl
theorem Im{u m:Int}:slY P A c (some 0) (some u) (some m) sz d l e h K=((0≤u∧u≤m∧m≤c)∧kR P l d e K (.slice A u.toNat m.toNat) h):=by
 have:(if m.toNat=(0:Int).toNat then A else A.map (·.add ((0:Int).toNat * sz)))=A:=by
  split
  ·rfl
  ·cases A <;> simp[Addr.add]
 simp only[slY,this];simp
theorem Ht{u m:Int}:sqY P A c (some 0) (some u) (some m) sz d l e h Kq=((0≤u∧u≤m∧m≤c)∧kQ P l d e h Kq (.slice A u.toNat m.toNat)):=by
 have:(if m.toNat=(0:Int).toNat then A else A.map (·.add ((0:Int).toNat * sz)))=A:=by
  split
  ·rfl
  ·cases A <;> simp[Addr.add]
 simp only[sqY,this];simp
theorem Hj{lw u m:Int}:slY P A c (some lw) (some u) (some m) sz d l e h K=((0≤lw∧lw≤u∧u≤m∧m≤c)∧kR P l d e K (.slice (if m.toNat=lw.toNat then A else A.map (·.add (lw.toNat * sz))) (u.toNat - lw.toNat) (m.toNat - lw.toNat)) h):=rfl
theorem Hw(e:Env)(j:Int):bnd e j none=some j:=rfl
theorem HS(e:Env)(j:Int)(o:O):bnd e j (some o)=Gs (ev e o):=rfl
theorem EE(k:IntKind)(j:Int):Gs (.int k j)=some j:=rfl
end slicing
attribute [push_cast] Hd HZ Im Ht Hw HS EE
theorem GH{P:Program}{cs:J6}{d:Nat}{l:J7}{e:Env}{h:H}{K:Kj}:alX P cs d l e h K=∀ b,h.G b=none→kR P l d e K (.pointer (some ⟨b,0,none⟩)) { h with L:=.blk b cs :: h.L }:=rfl
attribute [push_cast] GH
theorem Fg(A:Ka)(n c:Nat):Bw false (.slice A n c)=some (.bool A.isNone):=rfl
theorem D7(A:Ka)(n c:Nat):Bw true (.slice A n c)=some (.bool A.isSome):=rfl
theorem Aq(A:Ka):eqA A none=some A.isNone:=by cases A <;> rfl
theorem Eg(g i j:Nat):eqA (some ⟨g,i,none⟩) (some ⟨g,j,none⟩)=some (decide (i=j)):=by
 simp only[eqA,if_true];congr 1;by_cases h:i=j
 ·subst h;simp
 ·rw[beq_eq_false_iff_ne.2 fun he=>h (by injection he)];simp[h]
attribute [push_cast] eA Aq Eg Fg D7 Option.isNone_none Option.isNone_some Option.isSome_none Option.isSome_some
end Go.Kx
namespace Go.Kx
open Go Go.RowKit
open List (getElem?_eq_getElem mem_of_getElem? length_append append_nil append_assoc length_cons take_length)
theorem eh.ghost{P f args h h'}{R:Value→H→Prop}(hg:iH h h')(hc:eh P f args h' R):eh P f args h R :=
 ⟨hc.1,fun β w hs=>by
  obtain⟨s1,t1,d1,r1⟩:=hg β w hs
  exact(hc.2 β w s1).mono fun _ _ ⟨v,h2,a,⟨b1,b2⟩,c,d,r⟩=>⟨v,h2,a,⟨b1.trans d1,r1.trans b2⟩,c,t1.trans d,r⟩⟩
theorem Fun.enters{P:Program}{f:FuncId}{N:Nat}{V:Kb}{s:SC}{rl:Kd}(hf:Fun P f N V s rl):gX P f:=by
 obtain⟨_,_,_,_,_,_,_,h⟩:=hf.ok;exact h
theorem Fb{α:Type}{E:α→J6→Prop}{P f args}{G:J5}{L:J9}{D:Kh}{R:Value→Prop}{v:Value}{et sz n:Nat}{ys:J6}{xs:List α}(hE:gX P f)(h0:0 < sz)(hc:Cells E sz xs ys)
  (hf:∀ G',Gle G G'→SlV G' E sz v xs→eh P f args ⟨G',L,D⟩ fun r h'=>R r∧h'=⟨G',L,D⟩) :
  eh P f args ⟨G,.row v et sz n ys :: L,D⟩ fun r h'=>R r∧h'=⟨G,.row v et sz n ys :: L,D⟩ :=
 ⟨hE,fun β w hs=>by
  obtain⟨h1,⟨G',rfl,hg,hv⟩,s1,t1,d1,r1⟩:=kF (et:=et) h0 hc β w hs
  refine((hf G' hg hv).2 β w s1).mono ?_
  rintro x w' ⟨r,h2,rfl,⟨b1,b2⟩,s2,t2,hr,rfl⟩
  refine⟨r,_,rfl,⟨rfl,.refl _⟩,?_,?_,hr,rfl⟩
  ·refine⟨fun b o ho=>s2.g b o (hg b o ho),fun it hit=>?_,hs.nd,hs.df,s2.d⟩
   rcases List.mem_cons.1 hit with rfl | hit
   ·refine Item.ok_of (hs.l _ (List.mem_cons_self ..)) (fun b hb=>?_) rfl
    have hlt:b < w.heap.size:=Item.ok_lt (hs.l _ (List.mem_cons_self ..)) hb
    refine t2.old b hlt fun hm=>?_
    have hnd:=hs.nd
    simp only[fT,hb]at hnd
    simp only[Option.toList_some,List.singleton_append,List.cons_append,List.nodup_cons]at hnd
    exact hnd.1 (List.mem_append_left _ hm)
   ·exact s2.l it hit
  ·exact⟨t2.os,t2.tape,t2.output,t2.size,fun b hb hn=>t2.old b hb fun hm=>hn (by rw[fT];exact List.mem_append_right _ hm),Kp,fun _ h h'=>absurd h h',fun _ h=>.inl h,[],rfl,by simp⟩⟩
theorem splice_app(a b xs:J6)(o:Nat):splice (a++b) (a.length+o) xs=a++splice b o xs:=by
 rw[splice,splice,List.take_length_add_append,Nat.add_assoc,List.drop_length_add_append];simp
theorem rI(a b xs:J6)(o:Nat)(h:o+xs.length≤a.length):splice (a++b) o xs=splice a o xs++b:=by
 rw[splice,splice,List.take_append_of_le_length (by omega),List.drop_append_of_le_length h];simp
theorem Cells.setF{α:Type}{E:α→J6→Prop}{sz:Nat}{xs:List α}{ys:J6}(h:Cells E sz xs ys){k o:Nat}{x x':α}{us:J6}(hx:xs[k]?=some x)(ho:o+us.length≤sz)
  (hE:∀ cs,E x cs→cs.length=sz→E x' (splice cs o us)):Cells E sz (xs.set k x') (splice ys (k * sz+o) us):=by
 have hk:k < xs.length:=(List.getElem?_eq_some_iff.1 hx).1;obtain⟨a,b⟩:=h.split k (by omega);have hl:=h.len;have hlt:(ys.take (k * sz)).length=k * sz:=by
  rw[List.length_take,hl];exact Nat.min_eq_left (Nat.mul_le_mul_right _ (by omega))
 have hd:xs.drop k=x :: xs.drop (k+1):=by
  rw[List.drop_eq_getElem_cons hk];congr 1;exact(List.getElem?_eq_some_iff.1 hx).2
 rw[hd]at b;generalize hyd:ys.drop (k * sz)=yd at b;cases b with
 | cons hE' hl' ht =>
  rename_i cs rest;have e1:ys=ys.take (k * sz)++(cs++rest):=by rw[← hyd,List.take_append_drop]
  have e2:splice ys (k * sz+o) us=ys.take (k * sz)++(splice cs o us++rest):=by
   have:=splice_app (ys.take (k * sz)) (cs++rest) us o;rw[hlt,← e1,rI _ _ _ _ (by omega)]at this;exact this
  rw[e2,List.set_eq_take_append_cons_drop,if_pos hk];refine a.app (.cons (hE _ hE' hl') ?_ ht);simp[splice,hl'];omega
end Go.Kx
namespace Go.Kx
open Go Go.RowKit Go.ChangeShapes Go.WideShapes Go.Deep
open List (getElem?_eq_getElem mem_of_getElem? length_append append_nil append_assoc length_cons take_length)
def tX(W:World):J5:=fun b=>W.heap[b]?
theorem Ci(W:World):Sat (fun _=>0) ⟨tX W,[],[]⟩ W :=
 ⟨Kp,(fun _ h=>by cases h),List.nodup_nil,(fun _ h=>by cases h),(fun _ h=>by cases h)⟩
theorem FnS.calls{P:Program}{f:FuncId}{args:Array Value}{W:World}{v:Value}(h:FnS P f args (tX W) v):Calls P f args W fun e w'=>e=.returned v∧Below W.heap.size W w':=by
 refine((h [] []).2 _ W (Ci W)).mono ?_;rintro x w' ⟨r,h',rfl,_,s,t,rfl,rfl⟩;exact⟨rfl,t.os,t.tape,t.output,t.size,fun k hk=>t.old k hk (by simp[dom])⟩
theorem vF{W:World}{a:Addr}{v:Value}(h:W.cell? a=some v):eZ (tX W) a=some v:=by
 unfold eZ tX;unfold World.cell? at h;exact h
theorem Bi{α:Type}{E:α→J6→Prop}{sz:Nat}{G:J5}{a:Addr}:∀ (n:Nat),(∀ i,i < n→∃ (x:α) (cs:J6),cs.length=sz∧E x cs∧∀ j u,cs[j]?=some u→eZ G (a.add (i * sz+j))=some u) →
  ∃ xs:List α,xs.length=n∧SlA G E sz (some a) xs
 | 0,_=>⟨[],rfl,fun i x hx=>by simp at hx⟩
 | n+1,h=>by
  obtain⟨xs,hl,hA⟩:=Bi n fun i hi=>h i (by omega)
  obtain⟨x,cs,h1,h2,h3⟩:=h n (by omega);refine⟨xs++[x],by simp[hl],fun i y hy=>?_⟩;rw[List.getElem?_append]at hy;split at hy
  ·exact hA i y hy
  ·rename_i hi;have:i=n:=by
    have:=(List.getElem?_eq_some_iff.1 hy).1;simp at this;omega
   subst this;rw[hl]at hy;simp at hy;subst hy;exact⟨a,cs,rfl,h1,h2,h3⟩
section
variable {H:Type} {enc:TypeId × Value→H} {P:Program} {w:World} {base:Nat} {spare:Nat→Bool} {held:Bool}
end
end Go.Kx
namespace Go.Kx
open Go Go.RowKit
open List (getElem?_eq_getElem mem_of_getElem? length_append append_nil append_assoc length_cons take_length)
section
variable {β β' β2:Nat→Nat} {G G':J5} {L L' L2:J9} {D:Kh} {w w':World} {h:H} {P:Program}
theorem Db(hs:Sat β ⟨G,L,D⟩ w):Sat β ⟨G,L,[]⟩ w :=
 ⟨hs.g,hs.l,by simpa using hs.nd',fun b hb=>hs.df b (by simp only[append_nil]at hb;exact List.mem_append_left _ hb),fun _ h=>by cases h⟩
theorem AN{D':Kh}(st:Step β ⟨G,L,D⟩ w β' ⟨G',L',D'⟩ w'):Step β ⟨G,L,[]⟩ w β' ⟨G',L',[]⟩ w' :=
 ⟨st.os,st.tape,st.output,st.size,st.old,st.gm,st.gn,st.ln,[],rfl,by simp⟩
theorem uA(hn:dR L)(hs:Sat β' ⟨G,L,D⟩ w):Sat β ⟨G,L,D⟩ w:=by
 have hd:dom β' L=dom β L:=jp hn;exact⟨hs.g,fun it hit=>nn (fun s cs he=>hn s cs (he ▸ hit)) (hs.l it hit),by have:=hs.nd;rw[hd]at this;exact this,fun b hb=>hs.df b (by rw[hd];exact hb),hs.d⟩
theorem rx(hn:dR L)(st:Step β h w β' ⟨G,L,D⟩ w'):Step β h w β2 ⟨G,L,D⟩ w':=by
 have hd:dom β' L=dom β2 L:=jp hn;exact⟨st.os,st.tape,st.output,st.size,st.old,st.gm,st.gn,fun b hb=>st.ln b (by rw[hd];exact hb),st.dn⟩
theorem frame(hs:Sat β ⟨G,L++L2,D⟩ w)(hs':Sat β' ⟨G',L',[]⟩ w')(st:Step β ⟨G,L,[]⟩ w β' ⟨G',L',[]⟩ w')(hb:∀ it∈L2,it.block β'=it.block β):
  Sat β' ⟨G',L'++L2,D⟩ w'∧Step β ⟨G,L++L2,D⟩ w β' ⟨G',L'++L2,D⟩ w':=by
 have hnd0:=List.nodup_append.1 hs.nd;have hndL:=hnd0.1;rw[dU]at hndL;have hndL':=List.nodup_append.1 hndL;have hd2:dom β' L2=dom β L2:=by
  unfold dom;clear hs hnd0 hndL hndL'
  induction L2 with
  | nil=>rfl
  | cons it l ih =>
   have h1:=hb it (by simp);have h2:=ih (fun x hx=>hb x (by simp[hx]));simp only[List.filterMap_cons,h1,h2]
 have hlt2:∀ b,b∈dom β L2∨b∈D→b < w.heap.size:=fun b hb=>by
  rcases hb with hb | hb
  ·exact hs.dom_lt (by rw[dU];simp[hb])
  ·exact hs.d_lt hb
 have hn1:∀ b,b∈dom β L2∨b∈D→b∉dom β L:=fun b hb hm=>by
  rcases hb with hb | hb
  ·exact hndL'.2.2 b hm b hb rfl
  ·exact hnd0.2.2 b (by rw[dU];simp[hm]) b hb rfl
 have hkeep:∀ b,b∈dom β L2∨b∈D→w'.heap[b]?=w.heap[b]?:=fun b hb=>st.old b (hlt2 b hb) (hn1 b hb)
 have hsep:∀ b,b∈dom β' L'→¬ (b∈dom β L2∨b∈D):=fun b hb hc=>by
  rcases st.ln b hb with h | h
  ·exact hn1 b hc h
  ·have:=hlt2 b hc;omega
 refine⟨⟨hs'.g,fun it hit=>?_,?_,fun b hb'=>?_,fun b hb'=>?_⟩,?_⟩
 ·rcases List.mem_append.1 hit with h | h
  ·exact hs'.l it h
  ·exact Item.ok_of (hs.l it (by simp[h])) (fun b hb'=>hkeep b (.inl (List.mem_filterMap.2 ⟨it,h,hb'⟩))) (hb it h)
 ·rw[dU,hd2,append_assoc];refine List.nodup_append.2 ⟨hs'.nd',List.nodup_append.2 ⟨hndL'.2.1,hnd0.2.1,fun b hb c hc=>hnd0.2.2 b (by rw[dU];simp[hb]) c hc⟩,fun b hb c hc he=>?_⟩;subst he;exact hsep b hb (List.mem_append.1 hc)
 ·rw[dU,hd2,append_assoc]at hb';rcases List.mem_append.1 hb' with hb' | hb'
  ·exact hs'.df b (by rw[append_nil];exact hb')
  ·have hb2:=List.mem_append.1 hb';have h0:G b=none:=hs.df b (by rw[dU,append_assoc];exact List.mem_append_right _ hb');cases hg:G' b with
   | none=>exact hg
   | some o =>
    rcases st.gn b h0 (by show G' b≠none;rw[hg];simp)with h | h
    ·have:=hlt2 b hb2;omega
    ·exact absurd h (hn1 b hb2)
 ·rw[hkeep b (.inr hb')];exact hs.d b hb'
 ·refine⟨st.os,st.tape,st.output,st.size,fun b hb hn=>st.old b hb (fun hm=>hn (by rw[dU];simp[hm])),st.gm,fun b h0 h1=>?_,fun b hb'=>?_,[],rfl,by simp⟩
  ·rcases st.gn b h0 h1 with h | h
   ·exact .inl h
   ·exact .inr (by rw[dU];simp only[List.mem_append];exact .inl h)
  ·rw[dU]at hb' ⊢;rcases List.mem_append.1 hb' with hb' | hb'
   ·rcases st.ln b hb' with h | h
    ·exact .inl (List.mem_append_left _ h)
    ·exact .inr h
   ·exact .inl (List.mem_append_right _ (by rw[← hd2];exact hb'))
theorem rL{l:Nat}{o:Obj}(o':Obj)(hs:Sat β ⟨G,L++[.obj l o],D⟩ w):
  Sat β ⟨G,L++[.obj l o'],D⟩ (w.putObj l o')∧Step β ⟨G,L++[.obj l o],D⟩ w β ⟨G,L++[.obj l o'],D⟩ (w.putObj l o'):=by
 have h0:w.heap[l]?=some o:=hs.l (.obj l o) (by simp);refine jP hs rfl rfl rfl (by simp) (fun b _ hb=>World.putObj_heap_other (fun he=>hb (by simp[Item.block,he]))) ?_ (fun b hb=>.inl hb);exact World.putObj_heap_same (Array.getElem?_eq_some_iff.1 h0).1
theorem wn(hs:Sat β ⟨G,L,D⟩ w):Sat β ⟨G,L,w.heap.size :: D⟩ (w.alloc (.deferred (some [])))∧Step β ⟨G,L,D⟩ w β ⟨G,L,w.heap.size :: D⟩ (w.alloc (.deferred (some []))):=by
 have hold:∀ b,b < w.heap.size→(w.alloc (.deferred (some []))).heap[b]?=w.heap[b]?:=fun b hb=>heap_alloc_old w _ hb
 refine⟨⟨fun b o ho=>by rw[hold b (hs.g_lt ho)];exact hs.g b o ho,fun it hit=>Item.ok_of (hs.l it hit) (fun b hb=>hold b (Item.ok_lt (hs.l it hit) hb)) rfl,?_,fun b hb=>?_,fun b hb=>?_⟩,
  rfl,rfl,rfl,by simp,fun b hb _=>hold b hb,Kp,fun _ h h'=>absurd h h',fun _ h=>.inl h,[w.heap.size],rfl,by simp⟩
 ·have hnd:=List.nodup_append.1 hs.nd;refine List.nodup_append.2 ⟨hnd.1,List.nodup_cons.2 ⟨fun hm=>?_,hnd.2.1⟩,fun b hb c hc he=>?_⟩
  ·have:=hs.d_lt hm;omega
  ·subst he;rcases List.mem_cons.1 hc with h | h
   ·have:=hs.dom_lt (h:=⟨G,L,D⟩) hb;omega
   ·exact hnd.2.2 b hb b h rfl
 ·rcases List.mem_append.1 hb with h | h
  ·exact hs.df b (List.mem_append_left _ h)
  ·rcases List.mem_cons.1 h with rfl | h
   ·cases hg:G w.heap.size with
    | none=>exact hg
    | some o=>have:=hs.g_lt hg;omega
   ·exact hs.df b (List.mem_append_right _ h)
 ·rcases List.mem_cons.1 hb with rfl | h
  ·exact heap_alloc_new w _
  ·rw[hold b (hs.d_lt h)];exact hs.d b h
end
theorem iW.mono{P l args h}{R R':Value→H→Prop}(hc:iW P l args h R)(hr:∀ v h',R v h'→R' v h'):iW P l args h R':=fun β w hs=>by
 obtain⟨f,t,a,b,h1,h2⟩:=hc β w hs;exact⟨f,t,a,b,h1,h2.mono fun _ _ ⟨v,h',c,d,e,f,g⟩=>⟨v,h',c,d,e,f,hr _ _ g⟩⟩
theorem iW.ghost{P l args h h'}{R:Value→H→Prop}(hg:iH h h')(hc:iW P l args h' R):iW P l args h R:=fun β w hs=>by
 obtain⟨s1,t1,d1,r1⟩:=hg β w hs;obtain⟨f,t,a,b,h1,h2⟩:=hc β w s1;exact⟨f,t,a,b,h1,h2.mono fun _ _ ⟨v,h2,c,⟨d,d'⟩,e,f,g⟩=>⟨v,h2,c,⟨d.trans d1,r1.trans d'⟩,e,t1.trans f,g⟩⟩
theorem iW.gx{P l args h}{R R':Value→H→Prop}(hc:iW P l args h R)(hr:∀ v h',R v h'→eD h' (R' v)):iW P l args h R':=fun β w hs=>by
 obtain⟨f,t,a,b,h1,h2⟩:=hc β w hs;refine⟨f,t,a,b,h1,h2.mono fun _ _ ⟨v,h',c,⟨d,d'⟩,e,f,g⟩=>?_⟩;obtain⟨h3,a3,s3,t3,d3,r3⟩:=hr _ _ g β _ e;exact⟨v,h3,c,⟨d3.trans d,d'.trans r3⟩,s3,f.trans t3,a3⟩
def Yields{α:Type}(P:Program)(l:Nat)(E:(J5)→α→Array Value→Prop)(xs:List α)(I Ix:Nat→(J5)→J9→Prop)(G0:J5):Prop :=
 ∀ i x args G L,xs[i]?=some x→Gle G0 G→E G x args→I i G L→∀ L2 D2,iW P l args ⟨G,L++L2,D2⟩ fun v h' =>
  ∃ G' L',h'=⟨G',L'++L2,D2⟩∧Gle G G'∧dR L'∧((v=.bool true∧I (i+1) G' L')∨(v=.bool false∧Ix i G' L'))
def kC{α:Type}(P:Program)(gf:Nat)(cap:Array Value)(xs:List α)(E:(J5)→α→Array Value→Prop)(G0:J5):Prop :=
 ∀ l (I Ix:Nat→(J5)→J9→Prop) G L,Gle G0 G→dR L→(∀ i G L,I i G L→dR L)→(∀ i G L,Ix i G L→dR L)→(∀ i G G' L,Gle G G'→I i G L→I i G' L)→I 0 G L→Yields P l E xs I Ix G →
  ∀ L2 D,eh P gf (#[.func (.yield l) #[] #[]]++cap) ⟨G,L++L2,D⟩ fun _ h'=>∃ G' L',h'=⟨G',L'++L2,D⟩∧Gle G G'∧dR L'∧(I xs.length G' L'∨∃ i,i < xs.length∧Ix i G' L')
def Cq{α:Type}(P:Program)(gf:Nat)(cap:Array Value)(xs:List α)(E:(J5)→α→Array Value→Prop)(G0:J5)(C0:J9)(CE:J9→Prop):Prop :=
 ∀ l (I Ix:Nat→(J5)→J9→Prop) G L,Gle G0 G→dR L→(∀ i G L,I i G L→dR L)→(∀ i G L,Ix i G L→dR L)→(∀ i G G' L,Gle G G'→I i G L→I i G' L)→I 0 G L→Yields P l E xs I Ix G →
  ∀ L2 D,eh P gf (#[.func (.yield l) #[] #[]]++cap) ⟨G,L++(C0++L2),D⟩ fun _ h'=>∃ G' L' C',h'=⟨G',L'++(C'++L2),D⟩∧CE C'∧dR C'∧Gle G G'∧dR L'∧(I xs.length G' L'∨∃ i,i < xs.length∧Ix i G' L')
theorem kC.c{α:Type}{P gf cap}{xs:List α}{E G0}(h:kC P gf cap xs E G0):Cq P gf cap xs E G0 [] (· = []) :=
 fun l I Ix G L h1 h2 h3 h4 h5 h6 h7 L2 D=>(h l I Ix G L h1 h2 h3 h4 h5 h6 h7 L2 D).mono fun _ _ ⟨G',L',e,a,b,c⟩=>⟨G',L',[],e,rfl,dw,a,b,c⟩
theorem kC.le{α:Type}{P gf cap}{xs:List α}{E G0 G1}(h:kC P gf cap xs E G0)(hg:Gle G0 G1):kC P gf cap xs E G1 :=
 fun l I Ix G L h1 h2 h3 h4 h5 h6 h7=>h l I Ix G L (hg.trans h1) h2 h3 h4 h5 h6 h7
def nc:Env→Kh→J6→Env
 | e,p :: ps,v :: vs=>nc (e.set p v) ps vs
 | e,_,_=>e
def exC:Exit→Option Code
 | .ret=>some .ret
 | .exit id=>some (.exit id)
 | _=>none
def Bl(J:(J5)→J9→Prop)(Jx:Exit→(J5)→J9→Prop):Exit→Kj
 | .normal,_,h=>∃ h',iH ⟨h.G,h.L,[]⟩ h'∧dR h'.L∧J h'.G h'.L
 | .ret,_,h=>∃ h',iH ⟨h.G,h.L,[]⟩ h'∧dR h'.L∧Jx .ret h'.G h'.L
 | .exit id,_,h=>∃ h',iH ⟨h.G,h.L,[]⟩ h'∧dR h'.L∧Jx (.exit id) h'.G h'.L
 | _,_,_=>False
def F5(K:Kj):Exit→Kj
 | .normal,e,h=>K e ⟨h.G,h.L,[]⟩
 | _,_,_=>False
theorem pL{N:Nat}{vs:Kh}:∀ (ps:Kh) (args:J6) (t:Array Value) (e:Env),args.length=ps.length→(∀ p∈ps,p < N∧vs.contains p=false) →
  (t.size=N∧∀ i,i < N→i∉vs→t.getD i undef=e i) →
  (((ps.zip args).foldl (fun(t:Array Value) (p:Nat × Value)=>t.setIfInBounds p.1 p.2) t).size=N∧∀ i,i < N→i∉vs→((ps.zip args).foldl (fun(t:Array Value) (p:Nat × Value)=>t.setIfInBounds p.1 p.2) t).getD i undef=nc e ps args i)
 | [],[],t,e,_,_,h=>h
 | p :: ps,v :: as,t,e,hl,hp,h=>by
  simp only[List.zip_cons_cons,List.foldl_cons,nc];refine pL ps as _ _ (by simpa using hl) (fun q hq=>hp q (.tail _ hq)) ⟨by simp[h.1],fun i hi hv=>?_⟩;have h1:=h.2 i hi hv;by_cases hip:i=p
  ·subst hip;simp[Env.set,Array.getD_eq_getD_getElem?,h.1,hi]
  ·have hpi:¬ p=i:=fun e=>hip e.symm
   simp only[Env.set,hip,if_false,← h1,Array.getD_eq_getD_getElem?];rw[Array.getElem?_setIfInBounds_ne hpi]
 | [],_ :: _,_,_,hl,_,_=>by simp at hl
 | _ :: _,[],_,_,hl,_,_=>by simp at hl
section rules
variable {P:Program} {N:Nat} {rs vs:Kh} {Q:Exit→Kj} {e:Env} {h:H}
theorem AL{α:Type}{g:O}{ps:Kh}{x y:SC}{gf:Nat}{cap:Array Value}{E:(J5)→α→Array Value→Prop}{xs:List α}{G0:J5}{L0 C0:J9}{D0:Kh}{CE:J9→Prop}(I:Nat→(J5)→J9→Prop)(Ix:Exit→Nat→(J5)→J9→Prop)
  (hh:h=⟨G0,L0++C0,D0⟩) (hg:ev e g=.func (.func gf) #[] cap) (hEn:gX P gf) (hL:dR L0) (hmo:∀ i G G' L,Gle G G'→I i G L→I i G' L) (hit:Cq P gf cap xs E G0 C0 CE) (hps:∀ G x args,E G x args→args.size=ps.length) (h0:I 0 G0 L0)
  (round:∀ l i z args G L,xs[i]?=some z→Gle G0 G→E G z args→I i G L→dR L →
   wK (some l) P N rs vs x (F5 fun e1 h1=>wK (some l) P N rs vs y (Bl (I (i+1)) (fun ex=>Ix ex i)) e1 h1) (nc e ps args.toList) ⟨G,L,[]⟩)
  (done:∀ G L C d,Gle G0 G→I xs.length G L→dR L→CE C→Q .normal e ⟨G,L++C,d :: D0⟩)
  (stop:∀ ex i G L C d,i < xs.length→Gle G0 G→Ix ex i G L→dR L→CE C→Q ex e ⟨G,L++C,d :: D0⟩):wK none P N rs vs (.rf g ps x y) Q e h:=by
 subst hh;intro c hs;obtain⟨cg,cps,cx,cy,rfl,hcg,rfl,hpar,hcx,hcy⟩:=eM hs;intro β a w hr hw;refine wpIn_rangeFunc ?_;intro fn hfn;obtain⟨rec,hrec⟩:∃ rec:LoopState→Option Code→Loop,rec=fun st pe=>{ state:=st,pending:=pe,fn,tmps:=a.tmps,params:=cps,assign:=cx,body:=cy,defers:=w.heap.size }:=⟨_,rfl⟩
 obtain⟨l,hl⟩:∃ l,l=w.heap.size+1:=⟨_,rfl⟩;obtain⟨W1,hW1⟩:∃ W1,(w.alloc (.deferred (some []))).alloc (.loop (rec .ready none))=W1:=⟨_,rfl⟩;obtain⟨sd,td⟩:=wn hw;have hsat1:Sat β ⟨G0,(L0++[.obj l (.loop (rec .ready none))])++C0,w.heap.size :: D0⟩ W1∧Step β ⟨G0,L0++C0,D0⟩ w β ⟨G0,(L0++[.obj l (.loop (rec .ready none))])++C0,w.heap.size :: D0⟩ W1:=by
  obtain⟨s1,t1⟩:=kP (it:=.obj l (.loop (rec .ready none))) (w':=W1) sd (by rw[← hW1];rfl) (by rw[← hW1];rfl) (by rw[← hW1];rfl) (by rw[← hW1];simp) (fun b hb=>by rw[← hW1];exact heap_alloc_old _ _ hb)
   (by show W1.heap[l]?=_;rw[hl,← hW1];have:=heap_alloc_new (w.alloc (.deferred (some []))) (.loop (rec .ready none));rwa [World.size_alloc]at this) (fun b hb=>by simp[Item.block]at hb;rw[World.size_alloc];omega)
  have hpm:(Item.obj l (Obj.loop (rec .ready none)) :: (L0++C0)).Perm ((L0++[Item.obj l (Obj.loop (rec .ready none))])++C0):=(List.perm_append_comm (l₁:=[Item.obj l (Obj.loop (rec .ready none))]) (l₂:=L0)).append_right C0;obtain⟨s2,t2⟩:=oS s1 hpm;exact⟨s2,(td.trans t1).trans t2⟩
 have heg:a.eval cg=.func (.func gf) #[] cap:=by rw[ea hr hcg,hg]
 refine⟨l,[{ target:=.collected w.heap.size,args:=#[] }],W1,{ target:=.fn (.func gf) cap,args:=#[.func (.yield l) #[] #[]] },W1,gf,
  #[.func (.yield l) #[] #[]]++cap,W1,?_,?_,?_,?_,?_,?_⟩
 ·rw[← hW1,hrec,hl];exact run_enterLoop_outer _ _ _ _ _
 ·simp only[resolve,heg];simp[go_sem]
 ·intro f' _;trivial
 ·simp[invoke,go_sem,hEn _ _]
 ·intro h;cases h
 ·refine oF ?_;have hcall:=hit l (fun i G L=>∃ L1,L=L1++[.obj l (.loop (rec .ready none))]∧I i G L1∧dR L1) (fun i G L=>∃ ex c L1,L=L1++[.obj l (.loop (rec .done (some c)))]∧exC ex=some c∧Ix ex i G L1∧dR L1)
   G0 (L0++[.obj l (.loop (rec .ready none))]) (.refl _) (fun s cs hm=>by
    rcases List.mem_append.1 hm with h | h
    ·exact hL s cs h
    ·simp at h) (fun i G L ⟨L1,h1,_,h3⟩ s cs hm=>by
    subst h1
    rcases List.mem_append.1 hm with h | h
    ·exact h3 s cs h
    ·simp at h) (fun i G L ⟨_,_,L1,h1,_,_,h3⟩ s cs hm=>by
    subst h1
    rcases List.mem_append.1 hm with h | h
    ·exact h3 s cs h
    ·simp at h) (fun i G G' L hg ⟨L1,h1,h2,h3⟩=>⟨L1,h1,hmo i G G' L1 hg h2,h3⟩) ⟨L0,rfl,h0,hL⟩ ?_ [] (w.heap.size :: D0)
  ·rw[append_nil]at hcall;refine(hcall.2 β W1 hsat1.1).mono ?_;rintro x w3 ⟨v,h',rfl,_,s3,t3,G',L',C',rfl,hCE,hnC,hgg,_,hend⟩;rw[append_nil]at s3 t3;have hnA:∀ L1,dR L1→dR (L1++C'):=fun L1 hn s cs hm=>(List.mem_append.1 hm).elim (hn s cs) (hnC s cs)
   have hrel:∀ L1,dR L1→Rel none N rs vs β { a with defers:=[{ target:=.collected w.heap.size,args:=#[] }]++a.defers } e ⟨G',L1,w.heap.size :: D0⟩:=fun L1 hn=>by
    refine⟨hr.size,hr.env,fun s cs hm=>absurd hm (hn s cs),?_⟩;have:=hr.dfr;simp at this ⊢;rw[this]
   have fin:∀ r L1,Sat β ⟨G',(L1++[.obj l (.loop r)])++C',w.heap.size :: D0⟩ w3→Step β ⟨G0,(L0++[.obj l (.loop (rec .ready none))])++C0,w.heap.size :: D0⟩ W1 β ⟨G',(L1++[.obj l (.loop r)])++C',w.heap.size :: D0⟩ w3→∀ o,Sat β ⟨G',L1++C',w.heap.size :: D0⟩ (w3.putObj l o)∧Step β ⟨G0,L0++C0,D0⟩ w β ⟨G',L1++C',w.heap.size :: D0⟩ (w3.putObj l o):=fun r L1 s t o=>by
    obtain⟨s3,t3⟩:=oS s (L':=(L1++C')++[.obj l (.loop r)]) (by rw[append_assoc,append_assoc];exact List.Perm.append_left L1 List.perm_append_comm);obtain⟨s4,t4⟩:=rL o s3;obtain⟨s5,t5⟩:=rz s4 (List.sublist_append_left (L1++C') _);exact⟨s5,(((hsat1.2.trans t).trans t3).trans t4).trans t5⟩
   rcases hend with⟨L1,rfl,hI,hn⟩ | ⟨i,hi,ex,c,L1,rfl,hc,hI,hn⟩
   ·have hob:w3.heap[l]?=some (.loop (rec .ready none)):=s3.l (.obj l _) (by simp);refine⟨_,_,run_endLoop hob (by rw[hrec];simp),?_⟩;have hp:(rec .ready none).pending=none:=by rw[hrec]
    rw[hp];exact⟨β,e,_,hrel _ (hnA L1 hn),(fin _ L1 s3 t3 _).1,(fin _ L1 s3 t3 _).2,done _ _ _ _ hgg hI hn hCE⟩
   ·have hob:w3.heap[l]?=some (.loop (rec .done (some c))):=s3.l (.obj l _) (by simp);refine⟨_,_,run_endLoop hob (by rw[hrec];simp),?_⟩;have hp:(rec .done (some c)).pending=some c:=by rw[hrec]
    rw[hp];have hq:=stop ex i _ _ _ w.heap.size hi hgg hI hn hCE;cases ex <;> simp only[exC,Option.some.injEq,reduceCtorEq]at hc <;> subst hc
    ·exact wpIn_exit ⟨β,e,_,hrel _ (hnA L1 hn),(fin _ L1 s3 t3 _).1,(fin _ L1 s3 t3 _).2,hq⟩
    ·exact wpIn_ret ⟨β,e,_,hrel _ (hnA L1 hn),(fin _ L1 s3 t3 _).1,(fin _ L1 s3 t3 _).2,hq⟩
  ·rintro i z args G L hz hgl hE ⟨L1,rfl,hI,hn⟩ L2 D2 β1 w1 hw1;have hobj:w1.heap[l]?=some (.loop (rec .ready none)):=hw1.l (.obj l _) (by simp);have hsz:=hps _ _ _ hE;have hy:=run_yield (P:=P) (args:=args) hobj (by rw[hrec];simpa using hsz);rw[hrec]at hy;dsimp only at hy;have hps0:∀ p∈cps.toList,p < N∧vs.contains p=false:=fun p hp=>by
    have:=Array.all_eq_true_iff_forall_mem.1 hpar p (by simpa using hp);simpa using this
   have hfold:(cps.zip args).foldl (fun(tmps:Array Value) (x:Nat × Value)=>tmps.setIfInBounds x.1 x.2) a.tmps=(cps.toList.zip args.toList).foldl (fun(t:Array Value) (p:Nat × Value)=>t.setIfInBounds p.1 p.2) a.tmps:=by
    rw[← Array.foldl_toList,Array.toList_zip]
   have hr0:=pL (N:=N) (vs:=vs) cps.toList args.toList a.tmps e (by simpa using hsz) hps0 ⟨hr.size,hr.env⟩;rw[← hfold]at hr0;have hrel0:Rel (some l) N rs vs β1 { tmps:=(cps.zip args).foldl (fun(tmps:Array Value) (x:Nat × Value)=>tmps.setIfInBounds x.1 x.2) a.tmps,defers:=[] } (nc e cps.toList args.toList) ⟨G,L1,[]⟩ :=
    ⟨hr0.1,hr0.2,fun s cs hm=>absurd hm (hn s cs),rfl⟩
   have hs0:Sat β1 ⟨G,L1++[.obj l (.loop (rec .ready none))],[]⟩ w1:=Db (ku hw1 (.refl _) (List.sublist_append_left _ _));have hs0':Sat β1 ⟨G,L1,[]⟩ w1:=ku hs0 (.refl _) (List.sublist_append_left _ _);refine⟨fn,_,cx,cy,hy,roundIn_of_wpIn hfn ?_⟩;refine wpIn_mono (round l i z args G L1 hz hgl hE hI hn cx hcx β1 _ w1 hrel0 hs0') ?_;rintro ex a1 w2 ⟨β2,e2,⟨G2,L2',D2'⟩,r2,s2,st2,q2⟩;cases ex with
   | normal =>
    have hq2:wK (some l) P N rs vs y (Bl (I (i+1)) (fun ex=>Ix ex i)) e2 ⟨G2,L2',[]⟩:=q2;obtain⟨f1,f2⟩:=frame hs0 (Db s2) (AN st2) (by simp[Item.block]);have hobj2:w2.heap[l]?=some (.loop (rec .ready none)):=f1.l (.obj l _) (by simp);obtain⟨b1,b2⟩:=rL (.loop { rec .ready none with state:=.busy }) f1
    have r2':Rel (some l) N rs vs β2 a1 e2 ⟨G2,L2',[]⟩:=⟨r2.size,r2.env,r2.reg,by have:=r2.dfr;simpa using this⟩;refine⟨_,run_beginRound hobj2 (by rw[hrec]),wpIn_mono (hq2 cy hcy β2 a1 _ r2' (ku b1 (.refl _) (List.sublist_append_left _ _))) ?_⟩;rintro ex a3 w3 ⟨β3,e3,⟨G3,L3,D3⟩,r3,s3,st3,q3⟩
    have fin:∀ (jump:Option Code) (J:(J5)→J9→Prop) (R:Value→H→Prop),(∃ h',iH ⟨G3,L3,[]⟩ h'∧dR h'.L∧J h'.G h'.L) →
      (∀ G' L',Gle G G'→dR L'→J G' L'→R (.bool jump.isNone) ⟨G',(L'++[.obj l (.loop { rec (if jump.isNone then .ready else .done) jump with state:=if jump.isNone then .ready else .done,pending:=jump })])++L2,D2⟩) →
      ∃ v w',(Instr.endRound l jump).run P w3=.ok v w'∧∃ v' h',Ending.returned v=.returned v'∧(h'.D=D2∧gp h' ⟨G,(L1++[.obj l (.loop (rec .ready none))])++L2,D2⟩)∧Sat β1 h' w'∧Step β1 ⟨G,(L1++[.obj l (.loop (rec .ready none))])++L2,D2⟩ w1 β1 h' w'∧R v' h':=by
     rintro jump J R ⟨⟨G4,L4,D4⟩,hgh,hn4,hJ⟩ hR;obtain⟨g1,g2,g3,g4⟩:=hgh β3 w3 (Db s3);dsimp only at g3 hn4 hJ;subst g3;obtain⟨c1,c2⟩:=frame b1 g1 ((AN st3).trans g2) (by simp[Item.block]);have hobj3:w3.heap[l]?=some (.loop { rec .ready none with state:=.busy }):=c1.l (.obj l _) (by simp)
     obtain⟨d1,d2⟩:=rL (.loop { rec .ready none with state:=if jump.isNone then .ready else .done,pending:=jump }) c1;have hn4':dR (L4++[.obj l (.loop { rec .ready none with state:=if jump.isNone then .ready else .done,pending:=jump })]):=fun s cs hm=>by
      rcases List.mem_append.1 hm with h | h
      ·exact hn4 s cs h
      ·simp at h
     have tot:=rx (β2:=β1) hn4' (((f2.trans b2).trans c2).trans d2);obtain⟨z1,z2⟩:=frame hw1 (uA (β:=β1) hn4' d1) tot (fun _ _=>rfl);have hreq:({ rec .ready none with state:=if jump.isNone then .ready else .done,pending:=jump }:Loop)={ rec (if jump.isNone then .ready else .done) jump with state:=if jump.isNone then .ready else .done,pending:=jump }:=by rw[hrec]
     refine⟨_,_,run_endRound jump hobj3,_,_,rfl,⟨rfl,?_⟩,z1,z2,?_⟩
     ·intro s cs hm;rcases List.mem_append.1 hm with h | h
      ·exact absurd h (hn4' s cs)
      ·exact⟨cs,List.mem_append_right _ h⟩
     ·rw[hreq];exact hR G4 L4 tot.gm hn4 hJ
    have noR:∀ L' r,dR L'→dR (L'++[.obj l (.loop r)]):=fun L' r hn s cs hm=>by
     rcases List.mem_append.1 hm with h | h
     ·exact hn s cs h
     ·simp at h
    cases ex with
    | normal =>
     refine fin none _ _ q3 fun G' L' hg' hn' hJ=>⟨G',_,rfl,hg',noR _ _ hn',.inl ⟨rfl,L',?_,hJ,hn'⟩⟩
     rw[hrec];rfl
    | ret =>
     refine fin (some .ret) _ _ q3 fun G' L' hg' hn' hJ=>⟨G',_,rfl,hg',noR _ _ hn',.inr ⟨rfl,.ret,.ret,L',?_,rfl,hJ,hn'⟩⟩
     rw[hrec];rfl
    | exit id =>
     refine fin (some (.exit id)) _ _ q3 fun G' L' hg' hn' hJ=>⟨G',_,rfl,hg',noR _ _ hn',.inr ⟨rfl,.exit id,.exit id,L',?_,rfl,hJ,hn'⟩⟩
     rw[hrec];rfl
    | goto t=>exact q3.elim
    | panic c=>exact q3.elim
    | outgrown=>exact q3.elim
   | _=>exact q2.elim
theorem Hy{α:Type}{g:O}{ps:Kh}{x y:SC}{gf:Nat}{cap:Array Value}{E:(J5)→α→Array Value→Prop}{xs:List α}(I:Nat→(J5)→J9→Prop)(Ix:Exit→Nat→(J5)→J9→Prop)
  (hg:ev e g=.func (.func gf) #[] cap) (hEn:gX P gf) (hL:dR h.L) (hmo:∀ i G G' L,Gle G G'→I i G L→I i G' L) (hit:kC P gf cap xs E h.G) (hps:∀ G x args,E G x args→args.size=ps.length) (h0:I 0 h.G h.L)
  (round:∀ l i z args G L,xs[i]?=some z→Gle h.G G→E G z args→I i G L→dR L →
   wK (some l) P N rs vs x (F5 fun e1 h1=>wK (some l) P N rs vs y (Bl (I (i+1)) (fun ex=>Ix ex i)) e1 h1) (nc e ps args.toList) ⟨G,L,[]⟩)
  (done:∀ G L d,Gle h.G G→I xs.length G L→dR L→Q .normal e ⟨G,L,d :: h.D⟩)
  (stop:∀ ex i G L d,i < xs.length→Gle h.G G→Ix ex i G L→dR L→Q ex e ⟨G,L,d :: h.D⟩):wK none P N rs vs (.rf g ps x y) Q e h :=
 AL (L0:=h.L) (C0:=[]) (CE:=(· = [])) (G0:=h.G) (D0:=h.D) I Ix (by rw[append_nil]) hg hEn hL hmo hit.c hps h0 round
  (fun G L C d h1 h2 h3 h4=>by subst h4;rw[append_nil];exact done G L d h1 h2 h3)
  (fun ex i G L C d h1 h2 h3 h4 h5=>by subst h5;rw[append_nil];exact stop ex i G L d h1 h2 h3 h4)
theorem Jb{α:Type}{fr:Kc}{g:O}{ps:Kh}{x y:SC}{gf:Nat}{cap:Array Value}{E:(J5)→α→Array Value→Prop}{xs:List α}{G0:J5}{L0 C0:J9}{D0:Kh}{CE:J9→Prop}(I:Nat→(J5)→J9→Prop)(Ix:Exit→Nat→(J5)→J9→Prop)
  (hh:h=⟨G0,L0++C0,D0⟩) (hg:ev e g=.func (.func gf) #[] cap) (hEn:gX P gf) (hL:dR L0) (hmo:∀ i G G' L,Gle G G'→I i G L→I i G' L) (hit:Cq P gf cap xs E G0 C0 CE) (hps:∀ G x args,E G x args→args.size=ps.length) (h0:I 0 G0 L0)
  (round:∀ l i z args G L,xs[i]?=some z→Gle G0 G→E G z args→I i G L→dR L →
   go (some l) P N rs vs (F5 fun e1 h1=>go (some l) P N rs vs (Bl (I (i+1)) (fun ex=>Ix ex i)) [.s y] e1 h1) [.s x] (nc e ps args.toList) ⟨G,L,[]⟩)
  (done:∀ G L C d,Gle G0 G→I xs.length G L→dR L→CE C→go none P N rs vs Q fr e ⟨G,L++C,d :: D0⟩)
  (stop:∀ ex i G L C d,i < xs.length→Gle G0 G→Ix ex i G L→dR L→CE C→kS none P N rs vs Q fr ex e ⟨G,L++C,d :: D0⟩):go none P N rs vs Q (.s (.rf g ps x y) :: fr) e h :=
 iK (Q:=fun x e h=>match x with | .normal=>go none P N rs vs Q fr e h | x=>kS none P N rs vs Q fr x e h)
  (AL I Ix hh hg hEn hL hmo hit hps h0 round done (fun ex i G L C d h1 h2 h3 h4 h5=>by
   have:=stop ex i G L C d h1 h2 h3 h4 h5
   cases ex <;> exact this)) fun x e h hq=>by cases x <;> exact hq
theorem rA{α:Type}{fr:Kc}{g:O}{ps:Kh}{x y:SC}{gf:Nat}{cap:Array Value}{E:(J5)→α→Array Value→Prop}{xs:List α}(I:Nat→(J5)→J9→Prop)(Ix:Exit→Nat→(J5)→J9→Prop)
  (hg:ev e g=.func (.func gf) #[] cap) (hEn:gX P gf) (hL:dR h.L) (hmo:∀ i G G' L,Gle G G'→I i G L→I i G' L) (hit:kC P gf cap xs E h.G) (hps:∀ G x args,E G x args→args.size=ps.length) (h0:I 0 h.G h.L)
  (round:∀ l i z args G L,xs[i]?=some z→Gle h.G G→E G z args→I i G L→dR L →
   go (some l) P N rs vs (F5 fun e1 h1=>go (some l) P N rs vs (Bl (I (i+1)) (fun ex=>Ix ex i)) [.s y] e1 h1) [.s x] (nc e ps args.toList) ⟨G,L,[]⟩)
  (done:∀ G L d,Gle h.G G→I xs.length G L→dR L→go none P N rs vs Q fr e ⟨G,L,d :: h.D⟩)
  (stop:∀ ex i G L d,i < xs.length→Gle h.G G→Ix ex i G L→dR L→kS none P N rs vs Q fr ex e ⟨G,L,d :: h.D⟩):go none P N rs vs Q (.s (.rf g ps x y) :: fr) e h :=
 iK (Q:=fun x e h=>match x with | .normal=>go none P N rs vs Q fr e h | x=>kS none P N rs vs Q fr x e h)
  (Hy I Ix hg hEn hL hmo hit hps h0 round done (fun ex i G L d h1 h2 h3 h4=>by
   have:=stop ex i G L d h1 h2 h3 h4
   cases ex <;> exact this)) fun x e h hq=>by cases x <;> exact hq
theorem rX{K:Kj}(hk:K e ⟨h.G,h.L,[]⟩):F5 K .normal e h:=hk
theorem qf{J:(J5)→J9→Prop}{Jx:Exit→(J5)→J9→Prop}(L':J9)(hs:L'.Sublist h.L)(hn:dR L')(hJ:J h.G L'):Bl J Jx .normal e h:=⟨⟨h.G,L',[]⟩,dE hs,hn,hJ⟩
theorem IL{J:(J5)→J9→Prop}{Jx:Exit→(J5)→J9→Prop}(L':J9)(hs:L'.Sublist h.L)(hn:dR L')(hJ:Jx .ret h.G L'):Bl J Jx .ret e h:=⟨⟨h.G,L',[]⟩,dE hs,hn,hJ⟩
theorem Hn{id:Nat}{J:(J5)→J9→Prop}{Jx:Exit→(J5)→J9→Prop}(L':J9)(hs:L'.Sublist h.L)(hn:dR L')(hJ:Jx (.exit id) h.G L'):Bl J Jx (.exit id) e h:=⟨⟨h.G,L',[]⟩,dE hs,hn,hJ⟩
end rules
theorem vZ(e:Env):nc e [] []=e:=rfl
theorem uk(e:Env)(p:Nat)(ps:Kh)(v:Value)(vs:J6):nc e (p :: ps) (v :: vs)=nc (e.set p v) ps vs:=rfl
attribute [push_cast] vZ uk
end Go.Kx
namespace Go.Kx
open Go Go.RowKit
open List (getElem?_eq_getElem mem_of_getElem? length_append append_nil append_assoc length_cons take_length)
theorem eg{G:J5}{D:Kh}{b:Nat}{cs:J6}(L1 L2:J9):
  eD ⟨G,L1++.blk b cs :: L2,D⟩ fun h'=>∃ G',h'=⟨G',L1++L2,D⟩∧Gle G G'∧∀ j u,cs[j]?=some u→eZ G' (Addr.add ⟨b,0,none⟩ j)=some u :=
 (eD.of (ee List.perm_middle)).trans fun h' e=>by subst e;exact js
theorem dT{α:Type}{E:α→J6→Prop}{G:J5}{D:Kh}{v:Value}{et:TypeId}{sz n:Nat}{ys:J6}{xs:List α}(L1 L2:J9)(h0:0 < sz)(hc:Cells E sz xs ys):
  eD ⟨G,L1++.row v et sz n ys :: L2,D⟩ fun h'=>∃ G',h'=⟨G',L1++L2,D⟩∧Gle G G'∧SlV G' E sz v xs :=
 (eD.of (ee List.perm_middle)).trans fun h' e=>by subst e;exact kF h0 hc
theorem dM{P:Program}{h:H}{K:Kj}{l:J7}{e:Env}{b o k:Nat}{xs cs:J6}(L1 L2:J9)(hL:h.L=L1++.blk b cs :: L2)(ho:o+xs.length≤cs.length)
  (h1:xs.length=k∧xs.all (·.oneCell')=true) (hk:dD P l e { h with L:=L1++.blk b (splice cs o xs) :: L2 } K):stX P (.pointer (some ⟨b,o,none⟩)) xs k l e h K:=by
 refine⟨_,?_,h1,hk⟩;rw[hL];exact .blk L1 ho
theorem AP{e:Env}{h:H}{s b:Nat}{v:Value}(h1:e s=.pointer (some ⟨b,0,none⟩))(h2:getB b h.L=some [v]):mc e h [.c s none]=some [v]:=by
 simp[mc,h1,u4,h2,ldC]
theorem AS(b:Nat)(cs:J6)(L:J9):getB b (.blk b cs :: L)=some cs:=by simp[getB]
theorem pH{α:Type}{P:Program}{l:Nat}{E:(J5)→α→Array Value→Prop}{xs:List α}{I Ix:Nat→(J5)→J9→Prop}{G0:J5}(hy:Kx.Yields P l E xs I Ix G0){i:Nat}{x:α}{args:Array Value}{G:J5}{L:J9}
  (hx:xs[i]?=some x) (hg:Gle G0 G) (hE:E G x args) (hI:I i G L):iW P l args ⟨G,L,[]⟩ fun v h'=>∃ G' L',h'=⟨G',L',[]⟩∧Gle G G'∧dR L'∧((v=.bool true∧I (i+1) G' L')∨(v=.bool false∧Ix i G' L')):=by
 have:=hy i x args G L hx hg hE hI [] [];simp only[append_nil]at this;exact this
def iv1:Value→Nat
 | .int _ j=>(j+1).toNat
 | _=>0
theorem FZ(k:IntKind)(j:Int):iv1 (.int k j)=(j+1).toNat:=rfl
theorem fi(k:Nat)(c:Nat)(hk:k < c)(hm:c≤maxLen):IntKind.i64.wrap ((k:Int)+1)=(k:Int)+1:=by
 unfold maxLen at hm;rw[dX] <;> omega
theorem Gy(i j:Nat)(h:i+j < 18446744073709551616):ff .shr (.int .u64 (IntKind.u64.wrap (IntKind.i64.wrap ((i:Int)+j)))) (.int .u64 1)=some (.int .u64 (((i+j) / 2:Nat):Int)):=by
 have h1:IntKind.u64.wrap (IntKind.i64.wrap ((i:Int)+j))=((i+j:Nat):Int):=by
  rw[IntKind.wrap_i64,IntKind.wrap_u64];omega
 rw[h1];simp[ff,IntKind.bits];rw[Int.fdiv_eq_ediv_of_nonneg _ (by omega)]
theorem cvh(i j:Nat)(h:i+j < 18446744073709551616):IntKind.i64.wrap (((i+j) / 2:Nat):Int)=(((i+j) / 2:Nat):Int):=by
 rw[dX] <;> omega
def yv{α:Type}(E:α→J6→Prop)(et sz:Nat)(zs:List α)(L':J9)(r:Value):Prop:=∃ ys,Cells E sz zs ys∧L'=[.row r et sz zs.length ys]
end Go.Kx
namespace Go.Kx
open Go Go.RowKit
open List (getElem?_eq_getElem mem_of_getElem? length_append append_nil append_assoc length_cons take_length)
section
variable {α:Sort _} {x y:α} {a b p q s t u v w:Prop}
theorem sI(hb:b)(h:a=b:=by(first | simp -implicitDefEqProofs only[nG,nH,push_cast,Nat.reduceBEq,Nat.reduceAdd,Nat.reduceSub,Nat.reduceMul,Nat.reduceLT,Nat.reduceLeDiff,Nat.reduceEqDiff,reduceIte,Bool.not_true,Bool.not_false,true_and,and_true,Option.map_some,Option.bind_some,Int.toNat_natCast] | skip);rfl):a:=h.mpr hb
theorem sJ(z:p)(hb:b)(h:p→a=b:=by intro z;(first | simp -implicitDefEqProofs only[nG,nH,push_cast,Nat.reduceBEq,Nat.reduceAdd,Nat.reduceSub,Nat.reduceMul,Nat.reduceLT,Nat.reduceLeDiff,Nat.reduceEqDiff,reduceIte,Bool.not_true,Bool.not_false,true_and,and_true,Option.map_some,Option.bind_some,Int.toNat_natCast,z] | skip);rfl):a:=(h z).mpr hb
theorem sJ2(z:p)(z2:q)(hb:b)(h:p→q→a=b:=by intro z z2;(first | simp -implicitDefEqProofs only[nG,nH,push_cast,Nat.reduceBEq,Nat.reduceAdd,Nat.reduceSub,Nat.reduceMul,Nat.reduceLT,Nat.reduceLeDiff,Nat.reduceEqDiff,reduceIte,Bool.not_true,Bool.not_false,true_and,and_true,Option.map_some,Option.bind_some,Int.toNat_natCast,z,z2] | skip);rfl):a:=(h z z2).mpr hb
theorem sJ3(z:p)(z2:q)(z3:s)(hb:b)(h:p→q→s→a=b:=by intro z z2 z3;(first | simp -implicitDefEqProofs only[nG,nH,push_cast,Nat.reduceBEq,Nat.reduceAdd,Nat.reduceSub,Nat.reduceMul,Nat.reduceLT,Nat.reduceLeDiff,Nat.reduceEqDiff,reduceIte,Bool.not_true,Bool.not_false,true_and,and_true,Option.map_some,Option.bind_some,Int.toNat_natCast,z,z2,z3] | skip);rfl):a:=(h z z2 z3).mpr hb
theorem sJ4(z:p)(z2:q)(z3:s)(z4:t)(hb:b)(h:p→q→s→t→a=b:=by intro z z2 z3 z4;(first | simp -implicitDefEqProofs only[nG,nH,push_cast,Nat.reduceBEq,Nat.reduceAdd,Nat.reduceSub,Nat.reduceMul,Nat.reduceLT,Nat.reduceLeDiff,Nat.reduceEqDiff,reduceIte,Bool.not_true,Bool.not_false,true_and,and_true,Option.map_some,Option.bind_some,Int.toNat_natCast,z,z2,z3,z4] | skip);rfl):a:=(h z z2 z3 z4).mpr hb
theorem sJ5(z:p)(z2:q)(z3:s)(z4:t)(z5:u)(hb:b)(h:p→q→s→t→u→a=b:=by intro z z2 z3 z4 z5;(first | simp -implicitDefEqProofs only[nG,nH,push_cast,Nat.reduceBEq,Nat.reduceAdd,Nat.reduceSub,Nat.reduceMul,Nat.reduceLT,Nat.reduceLeDiff,Nat.reduceEqDiff,reduceIte,Bool.not_true,Bool.not_false,true_and,and_true,Option.map_some,Option.bind_some,Int.toNat_natCast,z,z2,z3,z4,z5] | skip);rfl):a:=(h z z2 z3 z4 z5).mpr hb
theorem sJ6(z:p)(z2:q)(z3:s)(z4:t)(z5:u)(z6:v)(hb:b)(h:p→q→s→t→u→v→a=b:=by intro z z2 z3 z4 z5 z6;(first | simp -implicitDefEqProofs only[nG,nH,push_cast,Nat.reduceBEq,Nat.reduceAdd,Nat.reduceSub,Nat.reduceMul,Nat.reduceLT,Nat.reduceLeDiff,Nat.reduceEqDiff,reduceIte,Bool.not_true,Bool.not_false,true_and,and_true,Option.map_some,Option.bind_some,Int.toNat_natCast,z,z2,z3,z4,z5,z6] | skip);rfl):a:=(h z z2 z3 z4 z5 z6).mpr hb
theorem sJ7(z:p)(z2:q)(z3:s)(z4:t)(z5:u)(z6:v)(z7:w)(hb:b)(h:p→q→s→t→u→v→w→a=b:=by intro z z2 z3 z4 z5 z6 z7;(first | simp -implicitDefEqProofs only[nG,nH,push_cast,Nat.reduceBEq,Nat.reduceAdd,Nat.reduceSub,Nat.reduceMul,Nat.reduceLT,Nat.reduceLeDiff,Nat.reduceEqDiff,reduceIte,Bool.not_true,Bool.not_false,true_and,and_true,Option.map_some,Option.bind_some,Int.toNat_natCast,z,z2,z3,z4,z5,z6,z7] | skip);rfl):a:=(h z z2 z3 z4 z5 z6 z7).mpr hb
theorem eE(h:x=y:=by simp -implicitDefEqProofs only[nG,nH,push_cast,Nat.reduceBEq,Nat.reduceAdd,Nat.reduceSub,Nat.reduceMul,Nat.reduceLT,Nat.reduceLeDiff,Nat.reduceEqDiff,reduceIte,Bool.not_true,Bool.not_false,true_and,and_true,Option.map_some,Option.bind_some,Int.toNat_natCast]):x=y:=h
theorem eJ(z:p)(h:p→x=y:=by intro z;simp -implicitDefEqProofs only[nG,nH,push_cast,Nat.reduceBEq,Nat.reduceAdd,Nat.reduceSub,Nat.reduceMul,Nat.reduceLT,Nat.reduceLeDiff,Nat.reduceEqDiff,reduceIte,Bool.not_true,Bool.not_false,true_and,and_true,Option.map_some,Option.bind_some,Int.toNat_natCast,z]):x=y:=h z
end
class Stp (r:Kk) (fr:Kc) (fr':outParam (Kc)):Prop where
 st:∀ {P:Program} {N:Nat} {rs vs:Kh} {Q:Exit→Kj} {e:Env} {h:H},go r P N rs vs Q fr' e h→go r P N rs vs Q fr e h
section
variable {r:Kk} {fr fr':Kc} {x y:SC} {n:Nat}
instance (priority:=10) Hp:Stp r fr fr:=⟨fun h=>h⟩
instance stp_seq [i:Stp r (.s x :: .s y :: fr) fr']:Stp r (.s (.seq x y) :: fr) fr':=⟨fun h=>dx (i.st h)⟩
instance stp_skip [i:Stp r fr fr']:Stp r (.s .skip :: fr) fr':=⟨fun h=>ek (i.st h)⟩
instance stp_lab [i:Stp r fr fr']:Stp r (.s (.lab n) :: fr) fr':=⟨fun h=>EO (i.st h)⟩
instance stp_blk [i:Stp r (.s x :: .b n :: fr) fr']:Stp r (.s (.blk n x) :: fr) fr':=⟨fun h=>Bp (i.st h)⟩
instance stp_b [i:Stp r fr fr']:Stp r (.b n :: fr) fr':=⟨fun h=>kl (i.st h)⟩
instance stp_n [i:Stp r fr fr']:Stp r (.n :: fr) fr':=⟨fun h=>J2 (i.st h)⟩
instance stp_scp [i:Stp none (.s x :: .n :: fr) fr']:Stp none (.s (.scp x) :: fr) fr':=⟨fun h=>Fl (i.st h)⟩
theorem dy{P:Program}{N:Nat}{rs vs:Kh}{Q:Exit→Kj}{e:Env}{h:H}[i:Stp r fr fr'](hk:go r P N rs vs Q fr' e h):go r P N rs vs Q fr e h:=i.st hk
variable {P:Program} {N:Nat} {rs vs:Kh} {Q:Exit→Kj} {e:Env} {h:H}
theorem gr{l:J7}{fr2:Kc}[i:Stp r fr (.s (.reg false l) :: fr2)](lo hi:Nat)(hk:dD P l e h fun e h=>∀ b,go r P N rs vs Q fr2 (mix lo hi e b) h)(hN:N≤99999:=by decide):go r P N rs vs Q fr e h:=i.st (J4 lo hi hN hk)
theorem gc{o:O}{x y:SC}{fr2:Kc}[i:Stp r fr (.s (.cond o x y) :: fr2)](hk:doB (ev e o) (go r P N rs vs Q (.s x :: fr2) e h) (go r P N rs vs Q (.s y :: fr2) e h)):go r P N rs vs Q fr e h:=i.st (Jo hk)
theorem rV{fr2:Kc}{rl:Kd}{R:Value→H→Prop}{out:J6}[i:Stp r fr (.s .ret :: fr2)](hv:R (sZ out) ⟨h.G,[],[]⟩)(hr:mc e h rl=some out:=by rfl):go r P N rs vs (gl rl R) fr e h:=i.st (dG (jS hr hv))
theorem gR{l:J7}{fr2:Kc}{p b:Prop}[i:Stp r fr (.s (.reg false l) :: fr2)](lo hi:Nat)(z:p)(hb:b)(hh:p→(dD P l e h fun e h=>∀ b,go r P N rs vs Q fr2 (mix lo hi e b) h)=b:=by intro z;(first | simp -implicitDefEqProofs only[nG,nH,push_cast,Nat.reduceBEq,Nat.reduceAdd,Nat.reduceSub,Nat.reduceMul,Nat.reduceLT,Nat.reduceLeDiff,Nat.reduceEqDiff,reduceIte,Bool.not_true,Bool.not_false,true_and,and_true,Option.map_some,Option.bind_some,Int.toNat_natCast,z] | skip);rfl)(hN:N≤99999:=by decide):go r P N rs vs Q fr e h:=gr lo hi ((hh z).mpr hb) hN
theorem gR2{l:J7}{fr2:Kc}{p q b:Prop}[i:Stp r fr (.s (.reg false l) :: fr2)](lo hi:Nat)(z:p)(z2:q)(hb:b)(hh:p→q→(dD P l e h fun e h=>∀ b,go r P N rs vs Q fr2 (mix lo hi e b) h)=b:=by intro z z2;(first | simp -implicitDefEqProofs only[nG,nH,push_cast,Nat.reduceBEq,Nat.reduceAdd,Nat.reduceSub,Nat.reduceMul,Nat.reduceLT,Nat.reduceLeDiff,Nat.reduceEqDiff,reduceIte,Bool.not_true,Bool.not_false,true_and,and_true,Option.map_some,Option.bind_some,Int.toNat_natCast,z,z2] | skip);rfl)(hN:N≤99999:=by decide):go r P N rs vs Q fr e h:=gr lo hi ((hh z z2).mpr hb) hN
theorem gbD{p A B:Prop}[Decidable p](h1:p→A)(h2:¬ p→B):doB (.bool (decide p)) A B:=gb (fun k=>h1 (Kn k)) fun k=>h2 (Ko k)
theorem gdD{p:Prop}[Decidable p]{b s c k d l e h K}(h1:p→gdY P (.bool true) b s c k d l e h K)(h2:¬ p→gdY P (.bool false) b s c k d l e h K):gdY P (.bool (decide p)) b s c k d l e h K:=gd (fun k=>h1 (Kn k)) fun k=>h2 (Ko k)
theorem gxD{p:Prop}[Decidable p]{h1 b t s c d k l e h K}(p1:p→gxX P h1 (.bool true) b t s c d k l e h K)(p2:¬ p→gxX P h1 (.bool false) b t s c d k l e h K):gxX P h1 (.bool (decide p)) b t s c d k l e h K:=gx (fun k=>p1 (Kn k)) fun k=>p2 (Ko k)
theorem gC{o:O}{x y:SC}{fr2:Kc}{b:Prop}[i:Stp r fr (.s (.cond o x y) :: fr2)](hb:b)(hh:doB (ev e o) (go r P N rs vs Q (.s x :: fr2) e h) (go r P N rs vs Q (.s y :: fr2) e h)=b:=by(first | simp -implicitDefEqProofs only[nG,nH,push_cast,Nat.reduceBEq,Nat.reduceAdd,Nat.reduceSub,Nat.reduceMul,Nat.reduceLT,Nat.reduceLeDiff,Nat.reduceEqDiff,reduceIte,Bool.not_true,Bool.not_false,true_and,and_true,Option.map_some,Option.bind_some,Int.toNat_natCast] | skip);rfl):go r P N rs vs Q fr e h:=gc (hh.mpr hb)
theorem rW{fr2:Kc}{rl:Kd}{R:Value→H→Prop}{out:J6}{b:Prop}[i:Stp r fr (.s .ret :: fr2)](hb:b)(hr:mc e h rl=some out:=by rfl)(hh:R (sZ out) ⟨h.G,[],[]⟩=b:=by(first | simp only[push_cast,Nat.reduceBEq] | skip);rfl):go r P N rs vs (gl rl R) fr e h:=rV (hh.mpr hb) hr
theorem fK{f:FuncId}{args:Array Value}{R:Value→H→Prop}{v:Value}{b:Prop}(hc:eh P f args h fun r h'=>r=v∧h'=h)(hb:b)(hh:R v h=b:=by(first | simp -implicitDefEqProofs only[nG,nH,push_cast,Nat.reduceBEq,Nat.reduceAdd,Nat.reduceSub,Nat.reduceMul,Nat.reduceLT,Nat.reduceLeDiff,Nat.reduceEqDiff,reduceIte,Bool.not_true,Bool.not_false,true_and,and_true,Option.map_some,Option.bind_some,Int.toNat_natCast] | skip);rfl):eh P f args h R:=hc.mono fun _ _ ⟨e1,e2⟩=>by subst e1 e2;exact hh.mpr hb
class Stg (fr:Kc) (fr':outParam (Kc)):Prop where
 st:∀ {r:Kk} {P:Program} {N:Nat} {rs vs:Kh} {Q:Exit→Kj} {e:Env} {h:H},go r P N rs vs Q fr' e h→go r P N rs vs Q fr e h
instance (priority:=10) stg_0:Stg fr fr:=⟨fun h=>h⟩
instance stg_skip [i:Stg fr fr']:Stg (.s .skip :: fr) fr':=⟨fun h=>ek (i.st h)⟩
instance stg_b [i:Stg fr fr']:Stg (.b n :: fr) fr':=⟨fun h=>kl (i.st h)⟩
theorem gN[i:Stg fr fr'](hk:go r P N rs vs Q fr' e h):go r P N rs vs Q fr e h:=i.st hk
end
theorem Fun.mkA {P : Program} {f : FuncId} {fn : Func} {s : SC} {rl : Kd} {V : Kb} {N : Nat} (hf : P.funcs[f]? = some fn) (hN : fn.ntmps = N) (hn : (fn.name == "runtime.NumGoroutine") = false := by kernel_rfl) (hb : fn.body.isNone = false := by kernel_rfl) (hs : gZ P fn.ntmps V.1 V.2 (fn.body.getD .skip) = some s := by kernel_rfl) (hr : fG P fn.ntmps V.1 V.2 fn.results.toList = some rl := by kernel_rfl) : Fun P f N V s rl := Fun.mk' hf hN hn hb hs hr
abbrev N_(s:SOp):SI:=⟨none,s,none,0⟩
end Go.Kx

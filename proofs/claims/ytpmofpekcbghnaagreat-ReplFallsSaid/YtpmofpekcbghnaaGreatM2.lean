/- Parts of a proof, 11 texts in one file. No condition. -/
import Derived.Below
import Derived.Deep.Slices
import Derived.Deep.Fields
import Derived.ChangeSame
import Derived.RangeFuncIn
import Derived.KernelRfl
import Derived.Test.YtpmofpekcbghnaaGreatM1
set_option linter.unusedSimpArgs false
set_option linter.unusedVariables false
namespace Go.Kx
open Go Go.RowKit
open List (getElem?_eq_getElem mem_of_getElem? length_append append_nil take_length)
def Gle(G G':Ks):Prop:=∀ b o,G b=some o→G' b=some o
theorem Gle.refl(G:Ks):Gle G G:=KO
theorem Gle.trans{A B C:Ks}(h1:Gle A B)(h2:Gle B C):Gle A C:=fun b o h=>h2 b o (h1 b o h)
def FnS(P:Program)(f:FuncId)(args:Array Value)(G:Ks)(v:Value):Prop :=
 ∀ L D,eS P f args ⟨G,L,D⟩ fun r h'=>r=v∧h'=⟨G,L,D⟩
def FnE(P:Program)(f:FuncId)(args:Array Value)(G:Ks)(R:Value→Prop):Prop :=
 ∀ L D,eS P f args ⟨G,L,D⟩ fun r h'=>R r∧h'=⟨G,L,D⟩
def FnD(P:Program)(f:FuncId)(args:Array Value)(G:Ks)(R:(Ks)→Value→Prop):Prop :=
 ∀ L D,eS P f args ⟨G,L,D⟩ fun r h'=>∃ G',h'=⟨G',L,D⟩∧Gle G G'∧R G' r
def FnO(P:Program)(f:FuncId)(args:Array Value)(G:Ks)(L1:Kw)(R:(Ks)→Kw→Value→Prop):Prop :=
 ∀ L D,eS P f args ⟨G,L1++L,D⟩ fun r h'=>∃ G' L',h'=⟨G',L'++L,D⟩∧Gle G G'∧R G' L' r
theorem kE{β G G' L L' D w}(hs:Sat β ⟨G',L',D⟩ w)(hg:Gle G G')(hL:L.Sublist L'):Sat β ⟨G,L,D⟩ w:=by
 have hd:(dom β L++D).Sublist (dom β L'++D):=(hL.filterMap _).append KJ;refine⟨fun b o h=>hs.g b o (hg b o h),fun it h=>hs.l it (hL.subset h),hd.nodup hs.nd,fun b hb=>?_,hs.d⟩;have h0:=hs.df b (hd.subset hb);cases hgb:G b with
 | none=>exact hgb
 | some o=>have:=hg b o hgb;dsimp only at h0;rw[h0]at this;cases this
theorem jT{P f args G L D}{R:Value→H→Prop}{R':Value→H→Prop}(hc:eS P f args ⟨G,L,D⟩ R)
  (hr:∀ v h',R v h'→Gle G h'.G→∃ G2 L2,Gle G2 h'.G∧Gle G G2∧L2.Sublist h'.L∧R' v ⟨G2,L2,D⟩):eS P f args ⟨G,L,D⟩ R':=by
 refine⟨hc.1,fun β w hw=>(hc.2 β w hw).mono ?_⟩;rintro x w' ⟨v,h',rfl,⟨hD,hR⟩,hs,st,hrr⟩;obtain⟨G',L',D'⟩:=h';dsimp only at hD;subst hD;obtain⟨G2,L2,g1,g2,g3,g4⟩:=hr v _ hrr st.gm;have hdm:(dom β L2).Sublist (dom β L'):=g3.filterMap _
 refine⟨v,⟨G2,L2,D'⟩,rfl,⟨rfl,fun s cs h=>hR s cs (g3.subset h)⟩,kE hs g1 g3,⟨st.os,st.tape,st.output,st.size,st.old,g2,fun b h0 h1=>st.gn b h0 ?_,fun b hb=>st.ln b (hdm.subset hb),[],rfl,by simp⟩,g4⟩;cases h2:G2 b with
 | none=>exact absurd h2 h1
 | some o=>have h9:G' b=some o:=g1 b o h2;show G' b≠none;rw[h9];simp
section forms
variable {P:Program} {f:FuncId} {fn:Func} {c:Code} {rs vs:KF} {s:SC} {rl:KB} {args:Array Value} {G:Ks}
structure Fun (P:Program) (f:FuncId) (N:Nat) (V:Kz) (s:SC) (rl:KB):Prop where
 ok:∃ fn c,P.funcs[f]?=some fn∧fn.body=some c∧fn.ntmps=N∧jD P N V.1 V.2 c s∧fF P N V.1 V.2 fn.results.toList=some rl∧iy P f
theorem Fun.mk' {V : Kz} {N : Nat} (hf : P.funcs[f]? = some fn) (hN : fn.ntmps = N) (hn : (fn.name == "runtime.NumGoroutine") = false) (hb : fn.body.isNone = false) (hs : gv P fn.ntmps V.1 V.2 (fn.body.getD .skip) = some s) (hr : fF P fn.ntmps V.1 V.2 fn.results.toList = some rl) : Fun P f N V s rl := by
 cases hc:fn.body with
 | none=>rw[hc]at hb;cases hb
 | some c=>exact⟨fn,c,hf,hc,hN,by rw[← hN];exact .of (by simpa [hc]using hs),by rw[← hN];exact hr,rv hf hn hb⟩
theorem Fun.mkH {V : Kz} {N : Nat} (hf : P.funcs[f]? = some fn) (hN : fn.ntmps = N) (hn : (fn.name == "runtime.NumGoroutine") = false) (hb : fn.body.isNone = false) (hs : jD P fn.ntmps V.1 V.2 (fn.body.getD .skip) s) (hr : fF P fn.ntmps V.1 V.2 fn.results.toList = some rl) : Fun P f N V s rl := by
 cases hc:fn.body with
 | none=>rw[hc]at hb;cases hb
 | some c=>exact⟨fn,c,hf,hc,hN,by rw[← hN];simpa [hc]using hs,by rw[← hN];exact hr,rv hf hn hb⟩
theorem Fun.calls{N:Nat}{V:Kz}{L1:Kw}{R:Value→H→Prop}(hf:Fun P f N V s rl)(ha:args.size≤N)(hL1:eC L1)(hb:wK none P N V.1 V.2 s (fI rl R) (oq args) ⟨G,L1,[]⟩)(L2:Kw)(D:KF):
  eS P f args ⟨G,L1++L2,D⟩ fun v h'=>∃ G' L',h'=⟨G',L'++L2,D⟩∧eC L'∧R v ⟨G',L',[]⟩:=by
 obtain⟨fn,c,h1,h2,h3,h4,h5,h6⟩:=hf.ok;subst h3;exact yt h1 h2 h6 h4 h5 ha hL1 hb L2 D
theorem dS:eC []:=fun _ _ h=>by cases h
theorem Fun.fnE{N:Nat}{V:Kz}{R:Value→Prop}(hf:Fun P f N V s rl)(ha:args.size≤N)(hb:wK none P N V.1 V.2 s (fI rl fun v _=>R v) (oq args) ⟨G,[],[]⟩):FnE P f args G R:=fun L D =>
 jT (hf.calls ha dS hb L D) fun v h' ⟨G',L',he,_,hr⟩ hg=>⟨G,L,hg,.refl G,by subst he;exact List.sublist_append_right _ _,hr,rfl⟩
theorem Fun.fnS{N:Nat}{V:Kz}{v0:Value}(hf:Fun P f N V s rl)(ha:args.size≤N)(hb:wK none P N V.1 V.2 s (fI rl fun v _=>v=v0) (oq args) ⟨G,[],[]⟩):FnS P f args G v0:=hf.fnE ha hb
theorem Fun.fnD{N:Nat}{V:Kz}{R:(Ks)→Value→Prop}(hf:Fun P f N V s rl)(ha:args.size≤N)(hb:wK none P N V.1 V.2 s (fI rl fun v h=>R h.G v) (oq args) ⟨G,[],[]⟩):FnD P f args G R:=fun L D =>
 jT (hf.calls ha dS hb L D) fun v h' ⟨G',L',he,_,hr⟩ hg=>⟨G',L,by subst he;exact .refl _,by subst he;exact hg,by subst he;exact List.sublist_append_right _ _,G',rfl,by subst he;exact hg,hr⟩
theorem Fun.fnO{N:Nat}{V:Kz}{L1:Kw}{R:(Ks)→Kw→Value→Prop}(hf:Fun P f N V s rl)(ha:args.size≤N)(hL1:eC L1)(hb:wK none P N V.1 V.2 s (fI rl fun v h=>R h.G h.L v) (oq args) ⟨G,L1,[]⟩):FnO P f args G L1 R:=fun L D =>
 jT (hf.calls ha hL1 hb L D) fun v h' ⟨G',L',he,_,hr⟩ hg=>⟨G',L'++L,by subst he;exact .refl _,by subst he;exact hg,by subst he;exact .refl _,G',L',rfl,by subst he;exact hg,hr⟩
theorem kd{e:Env}{h:H}{R:Value→H→Prop}{out:Kt}(hr:mR e h rl=some out)(hv:R (tt out) ⟨h.G,[],[]⟩):fI rl R .ret e h :=
 ⟨out,hr,⟨h.G,[],[]⟩,dX KL,dS,hv⟩
end forms
theorem gy(a:Addr)(i j:Nat):(a.add i).add j=a.add (i+j):=by
 unfold Addr.add;by_cases hi:i=0 <;> by_cases hj:j=0 <;> simp[hi,hj,Nat.add_assoc]
theorem em{G G':Ks}(h:Gle G G'){a:Addr}{v:Value}(hc:fB G a=some v):fB G' a=some v:=by
 unfold fB at hc ⊢;split at hc
 ·rename_i hg;rw[h _ _ hg];exact hc
 ·cases hc
def SlA{α:Type}(G:Ks)(E:α→Kt→Prop)(sz:Nat)(A:Ky)(xs:List α):Prop :=
 ∀ i x,xs[i]?=some x→∃ a cs,A=some a∧cs.length=sz∧E x cs∧∀ j u,cs[j]?=some u→fB G (a.add (i * sz+j))=some u
def SlV{α:Type}(G:Ks)(E:α→Kt→Prop)(sz:Nat)(v:Value)(xs:List α):Prop :=
 ∃ A c,v=.slice A xs.length c∧xs.length≤c∧c≤maxLen∧SlA G E sz A xs
section slices
variable {α:Type} {G G':Ks} {E E':α→Kt→Prop} {sz:Nat} {A:Ky} {xs:List α} {v:Value}
theorem SlA.le(h:SlA G E sz A xs)(hg:Gle G G')(hE:∀ x cs,E x cs→E' x cs):SlA G' E' sz A xs:=fun i x hx=>by
 obtain⟨a,cs,h1,h2,h3,h4⟩:=h i x hx;exact⟨a,cs,h1,h2,hE _ _ h3,fun j u hu=>em hg (h4 j u hu)⟩
theorem SlV.le(h:SlV G E sz v xs)(hg:Gle G G')(hE:∀ x cs,E x cs→E' x cs):SlV G' E' sz v xs:=by
 obtain⟨A,c,h1,h2,h3,h4⟩:=h;exact⟨A,c,h1,h2,h3,h4.le hg hE⟩
theorem SlV.nil:SlV G E sz (.slice none 0 0) []:=⟨none,0,rfl,Nat.le_refl _,Nat.zero_le _,fun i x hx=>by simp at hx⟩
theorem SlA.at_(h:SlA G E sz A xs){k:Nat}{x:α}(hx:xs[k]?=some x)(L:Kw)(D:KF):
  ∃ a cs,A=some a∧E x cs∧cs.length=sz∧LdN ⟨G,L,D⟩ (.pointer (some (a.add (k * sz)))) (some sz) (.agg cs.toArray)∧∀ o u,cs[o]?=some u→LdN ⟨G,L,D⟩ (.pointer (some ((a.add (k * sz)).add o))) none u:=by
 obtain⟨a,cs,h1,h2,h3,h4⟩:=h k x hx;exact⟨a,cs,h1,h3,h2,⟨_,cs,rfl,rfl,h2,fun j u hu=>by rw[gy];exact .g (h4 j u hu)⟩,fun o u hu=>⟨_,rfl,by rw[gy];exact .g (h4 o u hu)⟩⟩
theorem SlA.at1(h:SlA G E 1 A xs){k:Nat}{x:α}(hx:xs[k]?=some x)(L:Kw)(D:KF):
  ∃ a u,A=some a∧E x [u]∧LdN ⟨G,L,D⟩ (.pointer (some (a.add (k * 1)))) none u:=by
 obtain⟨a,cs,h1,h2,h3,h4⟩:=h k x hx
 match cs,h2 with
 | [u],_=>exact⟨a,u,h1,h3,_,rfl,.g (by simpa using h4 0 u rfl)⟩
theorem SlA.cut(h:SlA G E sz A xs){l n:Nat}{B:Ky}(hn:n≤xs.length)(hB:l < n→B=A.map (·.add (l * sz))):SlA G E sz B ((xs.take n).drop l):=fun i x hx=>by
 rw[List.getElem?_drop,List.getElem?_take]at hx;split at hx
 ·rename_i hlt;obtain⟨a,cs,h1,h2,h3,h4⟩:=h (l+i) x hx;refine⟨a.add (l * sz),cs,by rw[hB (by omega),h1];rfl,h2,h3,fun j u hu=>?_⟩;rw[gy,← Nat.add_assoc,← Nat.add_mul];exact h4 j u hu
 ·cases hx
end slices
def I64(n:Int):Prop:=-9223372036854775808≤n∧n≤9223372036854775807
theorem ei{n:Int}(h:-9223372036854775808≤n∧n≤9223372036854775807):IntKind.i64.wrap n=n:=IntWalk.i64_in n h
end Go.Kx
namespace Go.Kx
open Go Go.RowKit
open List (getElem?_eq_getElem mem_of_getElem? length_append append_nil take_length)
section rules
variable {r:KI} {P:Program} {N:Nat} {rs vs:KF} {Q:Exit→KH} {e:Env} {h:H} {ss:List SC}
end rules
@[simp] theorem Ir (x y:Value):wX true x y=x:=by rw[pm];rfl
@[simp] theorem Jt (x y:Value):wX false x y=y:=by rw[pm];rfl
end Go.Kx
namespace Go.Kx
open Go Go.RowKit
open List (getElem?_eq_getElem mem_of_getElem? length_append append_nil take_length)
def und:Env:=fun _=>undef
theorem Jj:oq #[]=und:=by funext i;simp[oq,und]
theorem IR(a:Value):oq #[a]=und.set 0 a:=by funext i;match i with | 0=>rfl | n+1=>simp[oq,Env.set,und]
theorem H5(a b:Value):oq #[a,b]=(und.set 0 a).set 1 b:=by funext i;match i with | 0=>rfl | 1=>rfl | n+2=>simp[oq,Env.set,und]
theorem H2(a b c:Value):oq #[a,b,c]=((und.set 0 a).set 1 b).set 2 c:=by funext i;match i with | 0=>rfl | 1=>rfl | 2=>rfl | n+3=>simp[oq,Env.set,und]
theorem IK(a b c d:Value):oq #[a,b,c,d]=(((und.set 0 a).set 1 b).set 2 c).set 3 d:=by funext i;match i with | 0=>rfl | 1=>rfl | 2=>rfl | 3=>rfl | n+4=>simp[oq,Env.set,und]
theorem IY(a b c d f:Value):oq #[a,b,c,d,f]=((((und.set 0 a).set 1 b).set 2 c).set 3 d).set 4 f:=by funext i;match i with | 0=>rfl | 1=>rfl | 2=>rfl | 3=>rfl | 4=>rfl | n+5=>simp[oq,Env.set,und]
theorem Hg(a b c d f g:Value):oq #[a,b,c,d,f,g]=(((((und.set 0 a).set 1 b).set 2 c).set 3 d).set 4 f).set 5 g:=by funext i;match i with | 0=>rfl | 1=>rfl | 2=>rfl | 3=>rfl | 4=>rfl | 5=>rfl | n+6=>simp[oq,Env.set,und]
theorem Ie(e:Env)(d:Nat)(v:Value):e.set d v d=v:=by simp[Env.set]
theorem If(e:Env)(d i:Nat)(v:Value)(h:(i == d)=false):e.set d v i=e i:=by
 have:¬ i=d:=by simpa using h
 simp[Env.set,this]
theorem Kc(e:Env)(n:Nat):ev e (.t n)=e n:=rfl
theorem Ka(e:Env)(n:Int):ev e (.i n)=.int .i64 n:=rfl
theorem J7(e:Env)(x:Bool):ev e (.b x)=.bool x:=rfl
theorem JN(e:Env)(x:Value):ev e (.v x)=x:=rfl
def kR(P:Program)(l:Ku)(d:Nat)(e:Env)(K:KH)(v:Value)(h:H):Prop:=eb P l (e.set d v) h K
def doV(P:Program)(v:Option Value)(d:Nat)(l:Ku)(e:Env)(h:H)(K:KH):Prop :=
 match v with
 | some v=>eb P l (e.set d v) h K
 | none=>False
def doC(P:Program)(v:Option (Kt))(l:Ku)(e:Env)(h:H)(K:KH):Prop :=
 match v with
 | some _=>eb P l e h K
 | none=>False
def doL(P:Program)(v:Option (Kt))(o:Nat)(n:KI)(d:Nat)(l:Ku)(e:Env)(h:H)(K:KH):Prop :=
 match v with
 | some cs=>doV P (ldC cs o n) d l e h K
 | none=>False
def doS(P:Program)(v:Option (Kt))(xs:Kt)(s o n:Nat)(l:Ku)(e:Env)(h:H)(K:KH):Prop :=
 match v with
 | some cs=>(xs.length=n∧o+n≤cs.length∧xs.all (·.oneCell')=true)∧eb P l e { h with L:=hO s (eo cs o xs) h.L } K
 | none=>False
def ixX(P:Program)(x i:Value)(sz d:Nat)(l:Ku)(e:Env)(h:H)(K:KH):Prop :=
 match x,i with
 | .slice A n _,.int _ j=>(0≤j∧j < n)∧∃ a,A=some a∧kR P l d e K (.pointer (some (a.add (j.toNat * sz)))) h
 | _,_=>False
def slX(P:Program)(x:Value)(lo hi mx:Option O)(sz d:Nat)(l:Ku)(e:Env)(h:H)(K:KH):Prop :=
 match x with
 | .slice A n c =>
  match bnd e 0 lo,bnd e n hi,bnd e c mx with
  | some lw,some u,some m=>(0≤lw∧lw≤u∧u≤m∧m≤c)∧kR P l d e K (.slice (if m.toNat=lw.toNat then A else A.map (·.add (lw.toNat * sz))) (u.toNat - lw.toNat) (m.toNat - lw.toNat)) h
  | _,_,_=>False
 | _=>False
def ldX(P:Program)(x:Value)(n:KI)(d:Nat)(l:Ku)(e:Env)(h:H)(K:KH):Prop:=∃ v,LdN h x n v∧kR P l d e K v h
def stX(P:Program)(x:Value)(xs:Kt)(n:Nat)(l:Ku)(e:Env)(h:H)(K:KH):Prop :=
 ∃ L',StL h.L x xs L'∧(xs.length=n∧xs.all (·.oneCell')=true)∧eb P l e { h with L:=L' } K
def apX(P:Program)(x y:Value)(et:TypeId)(sz nb d:Nat)(l:Ku)(e:Env)(h:H)(K:KH):Prop :=
 ∃ L1 n xs L2 m ys,Az h.L x et sz L1 n xs L2∧Ex h y sz m ys∧((n+m) * nb≤140737488355328∧n+m≤maxLen) ∧
   ∀ A c,kR P l d e K (.slice A (n+m) c) { h with L:=L1++.row (.slice A (n+m) c) et sz (n+m) (xs++ys) :: L2 }
def alX(P:Program)(cs:Kt)(d:Nat)(l:Ku)(e:Env)(h:H)(K:KH):Prop:=∀ b,h.G b=none→kR P l d e K (.pointer (some ⟨b,0,none⟩)) { h with L:=.blk b cs :: h.L }
def blX(P:Program)(cs:Option (Kt))(et n sz d:Nat)(l:Ku)(e:Env)(h:H)(K:KH):Prop :=
 match cs with
 | some cs=>cs.length=n * sz∧∀ b,h.G b=none→kR P l d e K (.slice (some ⟨b,0,none⟩) n n) { h with L:=.row (.slice (some ⟨b,0,none⟩) n n) et sz n cs :: h.L }
 | none=>False
def azX(P:Program)(et sz nb:Nat)(x y:Value)(d:Nat)(l:Ku)(e:Env)(h:H)(K:KH):Prop :=
 ∃ n:Nat,(x=.slice none 0 0∧y=.int .i64 n)∧(0 < n∧n * nb≤140737488355328∧n≤maxLen) ∧
  ∀ b c zs,h.G b=none→kR P l d e K (.slice (some ⟨b,0,none⟩) n c) { h with L:=.row (.slice (some ⟨b,0,none⟩) n c) et sz n zs :: h.L }
def clX(P:Program)(z:Array Value)(x:Value)(d:Nat)(l:Ku)(e:Env)(h:H)(K:KH):Prop :=
 ∃ A n c L',x=.slice A n c∧((n=0∧L'=h.L)∨∃ b o,(A=some ⟨b,o,none⟩∧∀ u∈z.toList,u.oneCell'=true)∧StL h.L (.pointer (some ⟨b,o,none⟩)) (Builtin.zeroCells z n).toList L')∧kR P l d e K (.tuple #[]) { h with L:=L' }
def gdY(P:Program)(v:Value)(b:Bool)(s:SOp)(c:KI)(k d:Nat)(l:Ku)(e:Env)(h:H)(K:KH):Prop :=
 match v with
 | .bool t=>if t=b then eb P (⟨none,s,c,0⟩ :: l) (e.set d (.bool b)) h K else eb P l ((e.set d (.bool !b)).set k undef) h K
 | _=>eb P l (e.set k undef) h K
theorem iH{e:Env}{d:Nat}{v:Value}(h:e d=v):e.set d v=e:=by
 funext i
 simp only[Env.set];split
 ·rename_i hi;rw[hi,h]
 ·rfl
section rules
variable {P:Program} {e:Env} {h:H} {K:KH} {l:Ku} {k d:Nat} {c:KI} {s:SOp}
theorem IP:eb P [] e h K=K e h:=rfl
theorem JR(x:O):eb P (⟨none,.mv d x,none,k⟩ :: l) e h K=doV P (some (ev e x)) d l e h K:=rfl
theorem Gx(z x y:O):eb P (⟨none,.pick d z x y,none,k⟩ :: l) e h K=doV P (ov (ev e z) (ev e x) (ev e y)) d l e h K:=rfl
theorem HM(op:BinOp)(x y:O):eb P (⟨none,.bin d op x y,none,k⟩ :: l) e h K=doV P (fq op (ev e x) (ev e y)) d l e h K:=rfl
theorem I4(ne:Bool)(x y:O):eb P (⟨none,.eqb d ne x y,none,k⟩ :: l) e h K=doV P (EL ne (ev e x) (ev e y)) d l e h K:=rfl
theorem In(ne:Bool)(ks:KF)(x y:O):eb P (⟨none,.eqf d ne ks x y,none,k⟩ :: l) e h K=doV P (AW ne ks (ev e x) (ev e y)) d l e h K:=rfl
theorem Kp(op:UnOp)(x:O):eb P (⟨none,.un d op x,none,k⟩ :: l) e h K=doV P (unV op (ev e x)) d l e h K:=rfl
theorem IJ(ne:Bool)(x:O):eb P (⟨none,.isn d ne x,none,k⟩ :: l) e h K=doV P (Dg ne (ev e x)) d l e h K:=rfl
theorem Jr(ik:IntKind)(x:O):eb P (⟨none,.cvI d ik x,none,k⟩ :: l) e h K=doV P (Kx.cvI ik (ev e x)) d l e h K:=rfl
theorem Hw(x:O)(i:Nat):eb P (⟨none,.ext d x i,none,k⟩ :: l) e h K=doV P (Ew i (ev e x)) d l e h K:=rfl
theorem I9(x:O)(o:Nat)(n:KI):eb P (⟨none,.fld d x o n,none,k⟩ :: l) e h K=doV P (vm o n (ev e x)) d l e h K:=rfl
theorem HL(z:Kt)(ps:List (Nat × Nat × O)):eb P (⟨none,.bld d z ps,none,k⟩ :: l) e h K=doV P ((l7 (ps.map fun p=>(p.1,p.2.1,fm (ev e p.2.2))) z).map fun cs=>.agg cs.toArray) d l e h K:=rfl
theorem IH(f:Fn)(cs:List O):eb P (⟨none,.mkf d f cs,none,k⟩ :: l) e h K=doV P (some (.func f #[] (cs.map (ev e)).toArray)) d l e h K:=rfl
theorem HA(x:O):eb P (⟨none,.cpc d x,none,k⟩ :: l) e h K=doV P (Fi (ev e x)) d l e h K:=rfl
theorem Ip(b:Bool)(x:O):eb P (⟨none,.len d b x,none,k⟩ :: l) e h K=doV P (Ey b (ev e x)) d l e h K:=rfl
theorem J6(mx:Bool)(x y:O):eb P (⟨none,.mm d mx x y,none,k⟩ :: l) e h K=doV P (mmV mx (ev e x) (ev e y)) d l e h K:=rfl
theorem Jo(x:O):eb P (⟨none,.nck d x,none,k⟩ :: l) e h K=doV P (GA (ev e x)) d l e h K:=rfl
theorem Hh(x:O)(o:Nat):eb P (⟨none,.flA d x o,none,k⟩ :: l) e h K=doV P (EV o (ev e x)) d l e h K:=rfl
theorem Hf(v:Value):doV P (some v) d l e h K=eb P l (e.set d v) h K:=rfl
theorem Js{x:Nat}:eb P (⟨none,.nop,some x,k⟩ :: l) e h K=doC P (getR x h.L) l e h K:=by
 simp only[eb,opC,doC,opS];cases getR x h.L <;> rfl
theorem Fx:eb P (⟨none,.nop,none,k⟩ :: l) e h K=eb P l e h K:=rfl
theorem Ht(cs:Kt):doC P (some cs) l e h K=eb P l e h K:=rfl
theorem Hv(x i:O)(n sz:Nat):eb P (⟨none,.ixP d x i n sz,none,k⟩ :: l) e h K=doV P (vh n sz (ev e x) (ev e i)) d l e h K:=rfl
theorem Iz(x i:O)(n sz:Nat)(m:KI):eb P (⟨none,.ixV d x i n sz m,none,k⟩ :: l) e h K=doV P (xp n sz m (ev e x) (ev e i)) d l e h K:=rfl
theorem CB{n sz:Nat}{a:Addr}{kk:IntKind}{j:Int}:doV P (vh n sz (.pointer (some a)) (.int kk j)) d l e h K=((0≤j∧j < n)∧doV P (some (.pointer (some (a.add (j.toNat * sz))))) d l e h K):=by
 by_cases hj:0≤j∧j < n
 ·simp only[vh,hj,and_self,true_and,if_true]
 ·simp only[vh,if_neg hj];simp[doV];omega
theorem Ef{n sz:Nat}{m:KI}{cs:Array Value}{kk:IntKind}{j:Int}:doV P (xp n sz m (.agg cs) (.int kk j)) d l e h K=((0≤j∧j < n)∧doV P (vm (j.toNat * sz) m (.agg cs)) d l e h K):=by
 by_cases hj:0≤j∧j < n
 ·simp only[xp,hj,and_self,true_and,if_true]
 ·simp only[xp,if_neg hj];simp[doV];omega
theorem HF{x o:Nat}{n:KI}:eb P (⟨none,.ldR d x o n,none,k⟩ :: l) e h K=doL P (getR x h.L) o n d l e h K:=by
 simp only[eb,opC,opS,doL];cases getR x h.L with
 | none=>rfl
 | some cs=>cases ldC cs o n <;> rfl
theorem Hz(cs:Kt)(o:Nat)(n:KI):doL P (some cs) o n d l e h K=doV P (ldC cs o n) d l e h K:=rfl
theorem HS{x o n:Nat}{y:O}:eb P (⟨none,.stR x o n y,none,k⟩ :: l) e h K=doS P (getR x h.L) (fm (ev e y)) x o n l e h K:=by
 simp only[eb,opC,opS,doS];cases getR x h.L <;> rfl
theorem Ij(cs xs:Kt)(x o n:Nat):doS P (some cs) xs x o n l e h K=((xs.length=n∧o+n≤cs.length∧xs.all (·.oneCell')=true)∧eb P l e { h with L:=hO x (eo cs o xs) h.L } K):=rfl
theorem HX{x:Nat}{z:Kt}:eb P (⟨none,.alR x z,none,k⟩ :: l) e h K=eb P l e { h with L:=.reg x z :: rmR x h.L } K:=rfl
theorem IL{x:Nat}{y:O}:eb P (⟨none,.bxR x y,none,k⟩ :: l) e h K=eb P l e { h with L:=.reg x (fm (ev e y)) :: rmR x h.L } K:=rfl
theorem Kb{x i:O}{sz:Nat}:eb P (⟨none,.ixA d x i sz,none,k⟩ :: l) e h K=ixX P (ev e x) (ev e i) sz d l e h K:=by
 simp only[eb,opC,opS,ixX,kR];cases ev e x <;> cases ev e i <;> rfl
theorem H7{A:Ky}{n cc:Nat}{kk:IntKind}{j:Int}{sz:Nat}:ixX P (.slice A n cc) (.int kk j) sz d l e h K=((0≤j∧j < n)∧∃ a,A=some a∧kR P l d e K (.pointer (some (a.add (j.toNat * sz)))) h):=rfl
theorem JY{x:O}{lo hi mx:Option O}{sz:Nat}:eb P (⟨none,.sl d x lo hi mx sz,none,k⟩ :: l) e h K=slX P (ev e x) lo hi mx sz d l e h K:=by
 simp only[eb,opC,opS,slX,kR];cases ev e x <;> rfl
def csX(P:Program)(v:Value)(d:Nat)(l:Ku)(e:Env)(h:H)(K:KH):Prop:=∃ s,um h v s∧kR P l d e K (.string s) h
theorem HY{x:O}:eb P (⟨none,.cvS d x,none,k⟩ :: l) e h K=csX P (ev e x) d l e h K:=rfl
theorem x_ld{x:O}{n:KI}:eb P (⟨none,.ld d x n,none,k⟩ :: l) e h K=ldX P (ev e x) n d l e h K:=rfl
theorem JT{x y:O}{n:Nat}:eb P (⟨none,.st x n y,none,k⟩ :: l) e h K=stX P (ev e x) (fm (ev e y)) n l e h K:=rfl
theorem I5{x y:O}{et sz nb:Nat}:eb P (⟨none,.app d x y et sz nb,none,k⟩ :: l) e h K=apX P (ev e x) (ev e y) et sz nb d l e h K:=rfl
theorem IN{z:Array Value}{x:O}:eb P (⟨none,.clr d x z,none,k⟩ :: l) e h K=clX P z (ev e x) d l e h K:=rfl
theorem Im{et sz nb:Nat}{x y:O}:eb P (⟨none,.apz d et sz nb x y,none,k⟩ :: l) e h K=azX P et sz nb (ev e x) (ev e y) d l e h K:=rfl
theorem JZ{z:Kt}:eb P (⟨none,.al d z,none,k⟩ :: l) e h K=alX P z d l e h K:=rfl
theorem Kd{y:O}:eb P (⟨none,.bx d y,none,k⟩ :: l) e h K=alX P (fm (ev e y)) d l e h K:=rfl
theorem Hj:eb P (⟨none,.bl0 d,none,k⟩ :: l) e h K=∀ b,h.G b=none→kR P l d e K (.slice (some ⟨b,0,none⟩) 0 0) h:=rfl
theorem H0{et n sz:Nat}{z:Kt}{ps:List (Nat × Nat × O)}:eb P (⟨none,.bls d et n sz z ps,none,k⟩ :: l) e h K=blX P (l7 (ps.map fun p=>(p.1,p.2.1,fm (ev e p.2.2))) z) et n sz d l e h K:=by
 simp only[eb,opC,opS,blX];cases l7 (ps.map fun p=>(p.1,p.2.1,fm (ev e p.2.2))) z <;> rfl
theorem HR{cs:Kt}{et n sz:Nat}:blX P (some cs) et n sz d l e h K=(cs.length=n * sz∧∀ b,h.G b=none→kR P l d e K (.slice (some ⟨b,0,none⟩) n n) { h with L:=.row (.slice (some ⟨b,0,none⟩) n n) et sz n cs :: h.L }):=rfl
theorem Gu{f:Nat}{xs:List O}:eb P (⟨none,.call d f xs,none,k⟩ :: l) e h K=eS P f (xs.map (ev e)).toArray h (kR P l d e K):=rfl
theorem H6{f:O}{xs:List O}:eb P (⟨none,.cav d f xs,none,k⟩ :: l) e h K=Jl P (ev e f) (xs.map (ev e)).toArray h (kR P l d e K):=rfl
theorem x_g{b:Bool}:eb P (⟨some (d,b),s,c,k⟩ :: l) e h K=gdY P (e d) b s c k d l e h K:=by
 simp only[eb,gdY];cases hv:e d <;> simp only[gOk,Bool.false_eq_true,if_false];rename_i t;by_cases ht:t=b
 ·subst ht;simp only[beq_self_eq_true,if_true];rw[iH hv]
 ·have:(t == b)=false:=by simpa using ht
  have h2:(!b)=t:=by cases t <;> cases b <;> simp_all
  simp only[this,Bool.false_eq_true,if_false,ht];rw[h2,iH hv]
theorem FC:gdY P (.bool true) true s c k d l e h K=eb P (⟨none,s,c,0⟩ :: l) (e.set d (.bool true)) h K:=by simp[gdY]
theorem Fp:gdY P (.bool false) false s c k d l e h K=eb P (⟨none,s,c,0⟩ :: l) (e.set d (.bool false)) h K:=by simp[gdY]
theorem E7:gdY P (.bool true) false s c k d l e h K=eb P l ((e.set d (.bool true)).set k undef) h K:=by simp[gdY]
theorem E0:gdY P (.bool false) true s c k d l e h K=eb P l ((e.set d (.bool false)).set k undef) h K:=by simp[gdY]
theorem gd{t b:Bool}(h1:t=true→gdY P (.bool true) b s c k d l e h K)(h2:t=false→gdY P (.bool false) b s c k d l e h K):gdY P (.bool t) b s c k d l e h K:=by
 cases t
 ·exact h2 rfl
 ·exact h1 rfl
theorem mg(v:Value):kR P l d e K v h=eb P l (e.set d v) h K:=rfl
end rules
def kQ(P:Program)(l:Ku)(d:Nat)(e:Env)(h:H)(K:Env→Prop)(v:Value):Prop:=ez P l (e.set d v) h K
def qoV(P:Program)(v:Option Value)(d:Nat)(l:Ku)(e:Env)(h:H)(K:Env→Prop):Prop :=
 match v with
 | some v=>ez P l (e.set d v) h K
 | none=>False
def qoC(P:Program)(v:Option (Kt))(l:Ku)(e:Env)(h:H)(K:Env→Prop):Prop :=
 match v with
 | some _=>ez P l e h K
 | none=>False
def qoL(P:Program)(v:Option (Kt))(o:Nat)(n:KI)(d:Nat)(l:Ku)(e:Env)(h:H)(K:Env→Prop):Prop :=
 match v with
 | some cs=>qoV P (ldC cs o n) d l e h K
 | none=>False
def iqX(P:Program)(x i:Value)(sz d:Nat)(l:Ku)(e:Env)(h:H)(K:Env→Prop):Prop :=
 match x,i with
 | .slice A n _,.int _ j=>(0≤j∧j < n)∧∃ a,A=some a∧kQ P l d e h K (.pointer (some (a.add (j.toNat * sz))))
 | _,_=>False
def sqX(P:Program)(x:Value)(lo hi mx:Option O)(sz d:Nat)(l:Ku)(e:Env)(h:H)(K:Env→Prop):Prop :=
 match x with
 | .slice A n c =>
  match bnd e 0 lo,bnd e n hi,bnd e c mx with
  | some lw,some u,some m=>(0≤lw∧lw≤u∧u≤m∧m≤c)∧kQ P l d e h K (.slice (if m.toNat=lw.toNat then A else A.map (·.add (lw.toNat * sz))) (u.toNat - lw.toNat) (m.toNat - lw.toNat))
  | _,_,_=>False
 | _=>False
def lqX(P:Program)(x:Value)(n:KI)(d:Nat)(l:Ku)(e:Env)(h:H)(K:Env→Prop):Prop:=∃ v,LdN h x n v∧kQ P l d e h K v
def J5(P:Program)(v:Value)(d:Nat)(l:Ku)(e:Env)(h:H)(K:Env→Prop):Prop:=∃ s,um h v s∧kQ P l d e h K (.string s)
def cqX(P:Program)(f:FuncId)(args:Array Value)(d:Nat)(l:Ku)(e:Env)(h:H)(K:Env→Prop):Prop:=∃ v,eS P f args h (fun v' h'=>v'=v∧h'=h)∧kQ P l d e h K v
def gqY(P:Program)(v:Value)(b:Bool)(s:SOp)(c:KI)(k d:Nat)(l:Ku)(e:Env)(h:H)(K:Env→Prop):Prop :=
 match v with
 | .bool t=>if t=b then ez P (⟨none,s,c,0⟩ :: l) (e.set d (.bool b)) h K else ez P l ((e.set d (.bool !b)).set k undef) h K
 | _=>ez P l (e.set k undef) h K
section rulesQ
variable {P:Program} {e:Env} {h:H} {K:Env→Prop} {l:Ku} {k d:Nat} {c:KI} {s:SOp}
theorem Ja:ez P [] e h K=K e:=rfl
theorem J4(x:O):ez P (⟨none,.mv d x,none,k⟩ :: l) e h K=qoV P (some (ev e x)) d l e h K:=rfl
theorem Fv(z x y:O):ez P (⟨none,.pick d z x y,none,k⟩ :: l) e h K=qoV P (ov (ev e z) (ev e x) (ev e y)) d l e h K:=rfl
theorem Ib(op:BinOp)(x y:O):ez P (⟨none,.bin d op x y,none,k⟩ :: l) e h K=qoV P (fq op (ev e x) (ev e y)) d l e h K:=rfl
theorem Ic(ne:Bool)(x y:O):ez P (⟨none,.eqb d ne x y,none,k⟩ :: l) e h K=qoV P (EL ne (ev e x) (ev e y)) d l e h K:=rfl
theorem Jm(ne:Bool)(ks:KF)(x y:O):ez P (⟨none,.eqf d ne ks x y,none,k⟩ :: l) e h K=qoV P (AW ne ks (ev e x) (ev e y)) d l e h K:=rfl
theorem J1(op:UnOp)(x:O):ez P (⟨none,.un d op x,none,k⟩ :: l) e h K=qoV P (unV op (ev e x)) d l e h K:=rfl
theorem Hk(ne:Bool)(x:O):ez P (⟨none,.isn d ne x,none,k⟩ :: l) e h K=qoV P (Dg ne (ev e x)) d l e h K:=rfl
theorem Hl(ik:IntKind)(x:O):ez P (⟨none,.cvI d ik x,none,k⟩ :: l) e h K=qoV P (Kx.cvI ik (ev e x)) d l e h K:=rfl
theorem Iu(x:O)(i:Nat):ez P (⟨none,.ext d x i,none,k⟩ :: l) e h K=qoV P (Ew i (ev e x)) d l e h K:=rfl
theorem Jd(x:O)(o:Nat)(n:KI):ez P (⟨none,.fld d x o n,none,k⟩ :: l) e h K=qoV P (vm o n (ev e x)) d l e h K:=rfl
theorem It(z:Kt)(ps:List (Nat × Nat × O)):ez P (⟨none,.bld d z ps,none,k⟩ :: l) e h K=qoV P ((l7 (ps.map fun p=>(p.1,p.2.1,fm (ev e p.2.2))) z).map fun cs=>.agg cs.toArray) d l e h K:=rfl
theorem IM(f:Fn)(cs:List O):ez P (⟨none,.mkf d f cs,none,k⟩ :: l) e h K=qoV P (some (.func f #[] (cs.map (ev e)).toArray)) d l e h K:=rfl
theorem Jp(x:O):ez P (⟨none,.cpc d x,none,k⟩ :: l) e h K=qoV P (Fi (ev e x)) d l e h K:=rfl
theorem IA(b:Bool)(x:O):ez P (⟨none,.len d b x,none,k⟩ :: l) e h K=qoV P (Ey b (ev e x)) d l e h K:=rfl
theorem JL(mx:Bool)(x y:O):ez P (⟨none,.mm d mx x y,none,k⟩ :: l) e h K=qoV P (mmV mx (ev e x) (ev e y)) d l e h K:=rfl
theorem Ik(x:O):ez P (⟨none,.nck d x,none,k⟩ :: l) e h K=qoV P (GA (ev e x)) d l e h K:=rfl
theorem Hx(x:O)(o:Nat):ez P (⟨none,.flA d x o,none,k⟩ :: l) e h K=qoV P (EV o (ev e x)) d l e h K:=rfl
theorem HJ(v:Value):qoV P (some v) d l e h K=ez P l (e.set d v) h K:=rfl
theorem II{x:Nat}:ez P (⟨none,.nop,some x,k⟩ :: l) e h K=qoC P (getR x h.L) l e h K:=by
 simp only[ez,ly,qoC,opQ];cases getR x h.L <;> rfl
theorem FV:ez P (⟨none,.nop,none,k⟩ :: l) e h K=ez P l e h K:=rfl
theorem HV(cs:Kt):qoC P (some cs) l e h K=ez P l e h K:=rfl
theorem HE(x i:O)(n sz:Nat):ez P (⟨none,.ixP d x i n sz,none,k⟩ :: l) e h K=qoV P (vh n sz (ev e x) (ev e i)) d l e h K:=rfl
theorem Ii(x i:O)(n sz:Nat)(m:KI):ez P (⟨none,.ixV d x i n sz m,none,k⟩ :: l) e h K=qoV P (xp n sz m (ev e x) (ev e i)) d l e h K:=rfl
theorem DP{n sz:Nat}{a:Addr}{kk:IntKind}{j:Int}:qoV P (vh n sz (.pointer (some a)) (.int kk j)) d l e h K=((0≤j∧j < n)∧qoV P (some (.pointer (some (a.add (j.toNat * sz))))) d l e h K):=by
 by_cases hj:0≤j∧j < n
 ·simp only[vh,hj,and_self,true_and,if_true]
 ·simp only[vh,if_neg hj];simp[qoV];omega
theorem Cp{n sz:Nat}{m:KI}{cs:Array Value}{kk:IntKind}{j:Int}:qoV P (xp n sz m (.agg cs) (.int kk j)) d l e h K=((0≤j∧j < n)∧qoV P (vm (j.toNat * sz) m (.agg cs)) d l e h K):=by
 by_cases hj:0≤j∧j < n
 ·simp only[xp,hj,and_self,true_and,if_true]
 ·simp only[xp,if_neg hj];simp[qoV];omega
theorem Iw{x o:Nat}{n:KI}:ez P (⟨none,.ldR d x o n,none,k⟩ :: l) e h K=qoL P (getR x h.L) o n d l e h K:=by
 simp only[ez,ly,opQ,qoL];cases getR x h.L with
 | none=>rfl
 | some cs=>cases ldC cs o n <;> rfl
theorem Jg(cs:Kt)(o:Nat)(n:KI):qoL P (some cs) o n d l e h K=qoV P (ldC cs o n) d l e h K:=rfl
theorem J2{x i:O}{sz:Nat}:ez P (⟨none,.ixA d x i sz,none,k⟩ :: l) e h K=iqX P (ev e x) (ev e i) sz d l e h K:=by
 simp only[ez,ly,opQ,iqX,kQ];cases ev e x <;> cases ev e i <;> rfl
theorem I8{A:Ky}{n cc:Nat}{kk:IntKind}{j:Int}{sz:Nat}:iqX P (.slice A n cc) (.int kk j) sz d l e h K=((0≤j∧j < n)∧∃ a,A=some a∧kQ P l d e h K (.pointer (some (a.add (j.toNat * sz))))):=rfl
theorem Kk{x:O}{lo hi mx:Option O}{sz:Nat}:ez P (⟨none,.sl d x lo hi mx sz,none,k⟩ :: l) e h K=sqX P (ev e x) lo hi mx sz d l e h K:=by
 simp only[ez,ly,opQ,sqX,kQ];cases ev e x <;> rfl
theorem IV{x:O}:ez P (⟨none,.cvS d x,none,k⟩ :: l) e h K=J5 P (ev e x) d l e h K:=rfl
theorem y_ld{x:O}{n:KI}:ez P (⟨none,.ld d x n,none,k⟩ :: l) e h K=lqX P (ev e x) n d l e h K:=rfl
theorem GG{f:Nat}{xs:List O}:ez P (⟨none,.call d f xs,none,k⟩ :: l) e h K=cqX P f (xs.map (ev e)).toArray d l e h K:=rfl
theorem y_g{b:Bool}:ez P (⟨some (d,b),s,c,k⟩ :: l) e h K=gqY P (e d) b s c k d l e h K:=by
 simp only[ez,gqY];cases hv:e d <;> simp only[gOk,Bool.false_eq_true,if_false];rename_i t;by_cases ht:t=b
 ·subst ht;simp only[beq_self_eq_true,if_true];rw[iH hv]
 ·have:(t == b)=false:=by simpa using ht
  have h2:(!b)=t:=by cases t <;> cases b <;> simp_all
  simp only[this,Bool.false_eq_true,if_false,ht];rw[h2,iH hv]
theorem FA:gqY P (.bool true) true s c k d l e h K=ez P (⟨none,s,c,0⟩ :: l) (e.set d (.bool true)) h K:=by simp[gqY]
theorem GE:gqY P (.bool false) false s c k d l e h K=ez P (⟨none,s,c,0⟩ :: l) (e.set d (.bool false)) h K:=by simp[gqY]
theorem FQ:gqY P (.bool true) false s c k d l e h K=ez P l ((e.set d (.bool true)).set k undef) h K:=by simp[gqY]
theorem GK:gqY P (.bool false) true s c k d l e h K=ez P l ((e.set d (.bool false)).set k undef) h K:=by simp[gqY]
theorem gq{t b:Bool}(h1:t=true→gqY P (.bool true) b s c k d l e h K)(h2:t=false→gqY P (.bool false) b s c k d l e h K):gqY P (.bool t) b s c k d l e h K:=by
 cases t
 ·exact h2 rfl
 ·exact h1 rfl
theorem mf(v:Value):kQ P l d e h K v=ez P l (e.set d v) h K:=rfl
end rulesQ
theorem yV(a b:Int):fq .add (.int .i64 a) (.int .i64 b)=some (.int .i64 (IntKind.i64.wrap (a+b))):=rfl
theorem y6(a b:Int):fq .sub (.int .i64 a) (.int .i64 b)=some (.int .i64 (IntKind.i64.wrap (a - b))):=rfl
theorem AL(a b:Int):fq .mul (.int .i64 a) (.int .i64 b)=some (.int .i64 (IntKind.i64.wrap (a * b))):=rfl
theorem zn(k:IntKind)(a b:Int):fq .eql (.int k a) (.int k b)=some (.bool (decide (a=b))):=by simp[fq]
theorem zN(k:IntKind)(a b:Int):fq .neq (.int k a) (.int k b)=some (.bool (decide (a≠b))):=by simp[fq]
theorem Ao(k:IntKind)(a b:Int):fq .lss (.int k a) (.int k b)=some (.bool (decide (a < b))):=by simp[fq]
theorem Ai(k:IntKind)(a b:Int):fq .leq (.int k a) (.int k b)=some (.bool (decide (a≤b))):=by simp[fq]
theorem Ak(k:IntKind)(a b:Int):fq .gtr (.int k a) (.int k b)=some (.bool (decide (b < a))):=by simp[fq]
theorem yZ(k:IntKind)(a b:Int):fq .geq (.int k a) (.int k b)=some (.bool (decide (b≤a))):=by simp[fq]
theorem Ae(a b:Int)(hb:(b == 0)=false):fq .rem (.int .i64 a) (.int .i64 b)=some (.int .i64 (a.tmod b)):=by
 have:¬ b=0:=by simpa using hb
 simp[fq,this]
theorem zR(a b:Int)(hb:(b == 0)=false):fq .quo (.int .i64 a) (.int .i64 b)=some (.int .i64 (IntKind.i64.wrap (a.tdiv b))):=by
 have:¬ b=0:=by simpa using hb
 simp[fq,this]
theorem En(b:Bool):unV .not (.bool b)=some (.bool !b):=rfl
theorem Cc(a:Int):unV .neg (.int .i64 a)=some (.int .i64 (IntKind.i64.wrap (0 - a))):=rfl
theorem DB(x y:Value):ov (.bool true) x y=some x:=by simp[ov]
theorem Dw(x y:Value):ov (.bool false) x y=some y:=by simp[ov]
theorem pQ(k:IntKind)(n:Int):fm (.int k n)=[.int k n]:=rfl
theorem ob(x:Bool):fm (.bool x)=[.bool x]:=rfl
theorem DM(x:ByteArray):fm (.string x)=[.string x]:=rfl
theorem z8(A:Ky)(n c:Nat):fm (.slice A n c)=[.slice A n c]:=rfl
theorem Cw(A:Ky):fm (.pointer A)=[.pointer A]:=rfl
theorem Dz(f:Fn)(a b:Array Value):fm (.func f a b)=[.func f a b]:=rfl
theorem C6(l:Kt):fm (.agg l.toArray)=l:=by simp[fm,Value.cells]
theorem Ha(cs:Kt)(o:Nat):ldC cs o none=cs[o]?:=rfl
theorem HD(cs:Kt)(o n:Nat)(h:o+n≤cs.length):ldC cs o (some n)=some (.agg ((cs.drop o).take n).toArray):=by
 simp only[ldC];rw[if_pos h]
theorem F8(l:Kt)(o:Nat):vm o none (.agg l.toArray)=l[o]?:=by simp[vm]
theorem FM(l:Kt)(o n:Nat):vm o (some n) (.agg l.toArray)=some (.agg ((l.drop o).take n).toArray):=by simp[vm]
theorem Gv(l:Kt)(i:Nat):Ew i (.tuple l.toArray)=l[i]?:=by simp[Ew]
theorem HT(cs xs:Kt):eo cs 0 xs=xs++cs.drop xs.length:=by simp[eo]
theorem HK(c:Value)(cs xs:Kt)(n:Nat):eo (c :: cs) (n+1) xs=c :: eo cs n xs:=by simp[eo,Nat.add_right_comm n 1 xs.length]
theorem IQ(v:Value):tt [v]=v:=rfl
theorem I6(v u:Value):tt [v,u]=.tuple #[v,u]:=rfl
theorem HH(v u x:Value):tt [v,u,x]=.tuple #[v,u,x]:=rfl
theorem Il:tt []=.tuple #[]:=rfl
def iv:Value→Nat
 | .int _ j=>j.toNat
 | _=>0
theorem Kf(k:IntKind)(j:Int):iv (.int k j)=j.toNat:=rfl
theorem Ho(k:IntKind)(n:Int):(Value.int k n).oneCell'=true:=rfl
theorem Hd(x:Bool):(Value.bool x).oneCell'=true:=rfl
theorem HZ(x:ByteArray):(Value.string x).oneCell'=true:=rfl
theorem GD(A:Ky)(n c:Nat):(Value.slice A n c).oneCell'=true:=rfl
theorem IW(A:Ky):(Value.pointer A).oneCell'=true:=rfl
theorem H3(f:Fn)(a b:Array Value):(Value.func f a b).oneCell'=true:=rfl
theorem AP:([]:Kt).all (fun x=>x.oneCell')=true:=rfl
theorem xL(x:Value)(xs:Kt):(x :: xs).all (fun y=>y.oneCell')=(x.oneCell' && xs.all (fun y=>y.oneCell')):=rfl
attribute [push_cast] Ho Hd HZ GD IW H3 AP xL Bool.and_self Bool.and_true Bool.true_and
attribute [push_cast] Hv Iz CB Ef HY HE Ii DP Cp IV Il IQ I6 HH Kf Jj IR H5 H2 IK IY Hg Ie If Kc Ka J7 JN IP JR Gx HM I4 In Kp IJ Jr Hw I9 HL IH Ip HA Im IN Fi J6 Jo Hh Hf Js Fx Ht HF Hz HS Ij HX IL Kb H7 JY x_ld JT I5 JZ Kd Hj H0 HR Gu H6 x_g FC Fp E7 E0 Ja J4 Fv Ib Ic Jm J1 Hk Hl Iu Jd It IM IA Jp JL Ik Hx HJ II FV HV Iw Jg J2 I8 Kk y_ld GG y_g FA GE FQ GK yV y6 AL zn zN Ao Ai Ak yZ Ae zR En Cc DB Dw pQ ob DM z8 Cw Dz C6 Ha HD F8 FM Gv HT HK Ey GA EV Dg EL AW eqC cvI getR hO rmR List.map_cons List.map_nil List.length_cons List.length_nil List.drop_succ_cons List.drop_zero List.take_succ_cons List.take_zero List.nil_append List.cons_append List.getElem?_cons_zero List.getElem?_cons_succ
end Go.Kx
namespace Go.Kx
open Go Go.RowKit
open List (getElem?_eq_getElem mem_of_getElem? length_append append_nil take_length)
inductive Td where
 | s (x:SC)
 | b (id:Nat)
 | l (I:KH)
 | n
def kS(r:KI)(P:Program)(N:Nat)(rs vs:KF)(Q:Exit→KH):List Td→Exit→KH
 | []=>Q
 | .s x :: fr=>fl (wK r P N rs vs x (kS r P N rs vs Q fr)) (kS r P N rs vs Q fr)
 | .b id :: fr=>Ez id (kS r P N rs vs Q fr)
 | .l I :: fr=>fl I (kS r P N rs vs Q fr)
 | .n :: fr=>JC (kS r P N rs vs Q fr)
def go(r:KI)(P:Program)(N:Nat)(rs vs:KF)(Q:Exit→KH)(fr:List Td)(e:Env)(h:H):Prop:=kS r P N rs vs Q fr .normal e h
def mix(lo hi:Nat)(e b:Env):Env:=fun i=>if i=99999∨(lo≤i∧i < hi)then b i else e i
theorem ue(lo hi:Nat)(e:Env):mix lo hi e e=e:=by
 funext i;simp[mix]
theorem Hu(lo hi:Nat)(e b:Env)(v:Value):mix lo hi (e.set 99999 v) b=mix lo hi e b:=by
 funext i
 simp only[mix,Env.set];split
 ·rfl
 ·rename_i hn;have:¬ i=99999:=fun h=>hn (.inl h)
  simp[this]
theorem Gg(lo hi i:Nat)(e b:Env)(v:Value)(h1:lo≤i)(h2:i < hi):mix lo hi (e.set i v) b=mix lo hi e b:=by
 funext j
 simp only[mix,Env.set];split
 ·rfl
 ·rename_i hn;have:¬ j=i:=fun h=>hn (.inr ⟨by omega,by omega⟩)
  simp[this]
theorem Ee(lo hi i:Nat)(e b:Env)(v:Value)(h1:(i == 99999)=false)(h2:i < lo):mix lo hi (e.set i v) b=(mix lo hi e b).set i v:=by
 funext j
 have h1':¬ i=99999:=by simpa using h1
 simp only[mix,Env.set];by_cases hj:j=i
 ·subst hj;simp[h1',h2];omega
 ·simp[hj]
theorem Gr(lo hi i:Nat)(e b:Env)(v:Value)(h1:(i == 99999)=false)(h2:hi≤i):mix lo hi (e.set i v) b=(mix lo hi e b).set i v:=by
 funext j
 have h1':¬ i=99999:=by simpa using h1
 simp only[mix,Env.set];by_cases hj:j=i
 ·subst hj;simp[h1'];omega
 ·simp[hj]
theorem E9(lo hi i:Nat)(e b:Env)(h1:(i == 99999)=false)(h2:i < lo):mix lo hi e b i=e i:=by
 have h1':¬ i=99999:=by simpa using h1
 simp only[mix,h1',false_or];rw[if_neg (by omega)]
theorem EX(lo hi i:Nat)(e b:Env)(h1:(i == 99999)=false)(h2:hi≤i):mix lo hi e b i=e i:=by
 have h1':¬ i=99999:=by simpa using h1
 simp only[mix,h1',false_or];rw[if_neg (by omega)]
attribute [push_cast] E9 EX
def keep(e:Env):KF→Env→Env
 | [],b=>b
 | i :: is,b=>(keep e is b).set i (e i)
theorem xb(e:Env)(is:KF):keep e is e=e:=by
 induction is with
 | nil=>rfl
 | cons i is ih=>rw[keep,ih];exact iH rfl
theorem Ay(e b:Env):keep e [] b=b:=rfl
theorem wS(e b:Env)(i:Nat)(is:KF):keep e (i :: is) b=(keep e is b).set i (e i):=rfl
def doB(v:Value)(A B:Prop):Prop :=
 match v with
 | .bool t=>(t=true→A)∧(t=false→B)
 | _=>False
theorem GZ(A B:Prop):doB (.bool true) A B=A:=by simp[doB]
theorem Hq(A B:Prop):doB (.bool false) A B=B:=by simp[doB]
theorem gb{t:Bool}{A B:Prop}(h1:t=true→A)(h2:t=false→B):doB (.bool t) A B:=⟨h1,h2⟩
section rules
variable {r:KI} {P:Program} {N:Nat} {rs vs:KF} {Q:Exit→KH} {e:Env} {h:H} {fr:List Td}
theorem BD:kS r P N rs vs Q fr .ret e h=Q .ret e h:=by
 induction fr with
 | nil=>rfl
 | cons f fr ih=>cases f <;> exact ih
theorem dY{s:SC}(hk:go r P N rs vs Q [.s s] e h):wK r P N rs vs s Q e h:=hk
theorem ed{x y:SC}(hk:go r P N rs vs Q (.s x :: .s y :: fr) e h):go r P N rs vs Q (.s (.seq x y) :: fr) e h :=
 E8 fun _ hK=>iX (Q:=kS r P N rs vs Q (.s y :: fr)) hk fun x e h hq=>by cases x <;> first | exact hK e h hq | exact hq
theorem JS{l:Ku}(lo hi:Nat)(hN:N≤99999)(hk:eb P l e h fun e h=>∀ b,go r P N rs vs Q fr (mix lo hi e b) h):go r P N rs vs Q (.s (.reg false l) :: fr) e h :=
 iX (Q:=fun x e h=>∀ b,kS r P N rs vs Q fr x (mix lo hi e b) h) (E5 hN hk) fun x e h hq=>by
  have:=hq e;rw[ue]at this;cases x <;> exact this
theorem qB{l:Ku}(lo hi:Nat)(hN:N≤99999)(hk:ez P l e h fun e=>∀ b,go r P N rs vs Q fr (mix lo hi e b) h):go r P N rs vs Q (.s (.reg true l) :: fr) e h :=
 iX (Q:=fun x e h=>∀ b,kS r P N rs vs Q fr x (mix lo hi e b) h) (CF hN hk) fun x e h hq=>by
  have:=hq e;rw[ue]at this;cases x <;> exact this
theorem EP{l1 l2:Ku}(hN:N≤99999)(hk:ez P l1 e h fun e=>eb P l2 e h fun e h=>go r P N rs vs Q fr e h):go r P N rs vs Q (.s (.rgT l1 l2) :: fr) e h :=
 iX (Q:=kS r P N rs vs Q fr) (Fj hN hk) fun x e h hq=>by cases x <;> exact hq
theorem lk{l:List (Bool × SI)}(L1:Kw)(hL:L1.Sublist h.L)(hN:N≤99999)(hk:ew P ⟨h.G,L1,h.D⟩ l e h fun e h=>go r P N rs vs Q fr e h):go r P N rs vs Q (.s (.rgX l) :: fr) e h :=
 iX (Q:=kS r P N rs vs Q fr) (FK hN L1 hL hk) fun x e h hq=>by cases x <;> exact hq
theorem zK{t:RX}(L1:Kw)(hL:L1.Sublist h.L)(hN:N≤99999)(hk:iC P ⟨h.G,L1,h.D⟩ t e h fun e h=>go r P N rs vs Q fr e h):go r P N rs vs Q (.s (.rgZ t) :: fr) e h :=
 iX (Q:=kS r P N rs vs Q fr) (Ft hN L1 hL hk) fun x e h hq=>by cases x <;> exact hq
theorem Aq{l:List (Bool × SI)}{l2:Ku}(L1:Kw)(hL:L1.Sublist h.L)(hN:N≤99999)(hk:ew P ⟨h.G,L1,h.D⟩ l e h fun e h=>eb P l2 e h fun e h=>go r P N rs vs Q fr e h):go r P N rs vs Q (.s (.rgY l l2) :: fr) e h :=
 iX (Q:=kS r P N rs vs Q fr) (E2 hN L1 hL hk) fun x e h hq=>by cases x <;> exact hq
theorem qe{l:List WI}(L1:Kw)(hL:L1.Sublist h.L)(hN:N≤99999)(hk:eH P ⟨h.G,L1,h.D⟩ l e h fun e h=>go r P N rs vs Q fr e h):go r P N rs vs Q (.s (.rgW l) :: fr) e h :=
 iX (Q:=kS r P N rs vs Q fr) (FG hN L1 hL hk) fun x e h hq=>by cases x <;> exact hq
theorem eK(hk:go r P N rs vs Q fr e h):go r P N rs vs Q (.s .skip :: fr) e h:=Cj hk
theorem EK{l:Nat}(hk:go r P N rs vs Q fr e h):go r P N rs vs Q (.s (.lab l) :: fr) e h:=E6 hk
theorem eg{id:Nat}(hk:kS r P N rs vs Q fr (.exit id) e h):go r P N rs vs Q (.s (.exit id) :: fr) e h:=Ej hk
theorem ea(hk:Q .ret e h):go r P N rs vs Q (.s .ret :: fr) e h:=E3 (by rw[BD];exact hk)
theorem JJ{o:O}{x y:SC}(hk:doB (ev e o) (go r P N rs vs Q (.s x :: fr) e h) (go r P N rs vs Q (.s y :: fr) e h)):go r P N rs vs Q (.s (.cond o x y) :: fr) e h:=by
 unfold doB at hk;split at hk
 ·rename_i t ht;exact DK ht hk.1 hk.2
 ·exact hk.elim
theorem tq{id:Nat}{x:SC}(hk:go r P N rs vs Q (.s x :: .b id :: fr) e h):go r P N rs vs Q (.s (.blk id x) :: fr) e h:=Gs hk
theorem jg{id:Nat}(hk:go r P N rs vs Q fr e h):go r P N rs vs Q (.b id :: fr) e h:=hk
theorem Gy{x:SC}(hk:go none P N rs vs Q (.s x :: .n :: fr) e h):go none P N rs vs Q (.s (.scp x) :: fr) e h:=F2 hk
theorem JP(hk:go r P N rs vs Q fr e h):go r P N rs vs Q (.n :: fr) e h:=hk
theorem eF{I:KH}(hk:I e h):go r P N rs vs Q (.l I :: fr) e h:=hk
theorem gD(hk:Q .normal e h):go r P N rs vs Q [] e h:=hk
theorem ej{x:SC}(I:KH)(μ:Env→H→Nat)(h0:I e h)(round:∀ e h,I e h→go r P N rs vs Q (.s x :: .l (fun e' h'=>I e' h'∧μ e' h' < μ e h) :: fr) e h):go r P N rs vs Q (.s (.loop x) :: fr) e h :=
 C2 I μ h0 round
theorem dU{h':H}{s:SC}(hg:jf h h')(hk:go r P N rs vs Q (.s s :: fr) e h'):go r P N rs vs Q (.s s :: fr) e h:=Ag hg hk
theorem eL{s:SC}(M:KH)(h1:go r P N rs vs Q (.s s :: .l M :: fr) e h)(h2:∀ e h,M e h→go r P N rs vs Q fr e h):go r P N rs vs Q (.s s :: fr) e h :=
 iX (Q:=kS r P N rs vs Q (.l M :: fr)) h1 fun x e h hq=>by cases x <;> first | exact h2 e h hq | exact hq
theorem dV(is:KF)(hk:∀ b,go r P N rs vs Q fr (keep e is b) h):go r P N rs vs Q fr e h:=by
 have:=hk e
 rwa [xb]at this
theorem Kh{x:SC}{i:Nat}:kS r P N rs vs Q (.s x :: fr) (.exit i) e h=kS r P N rs vs Q fr (.exit i) e h:=rfl
theorem J0{i:Nat}:kS r P N rs vs Q (.n :: fr) (.exit i) e h=kS r P N rs vs Q fr (.exit i) e h:=rfl
theorem JW{I:KH}{i:Nat}:kS r P N rs vs Q (.l I :: fr) (.exit i) e h=kS r P N rs vs Q fr (.exit i) e h:=rfl
theorem Kl{i j:Nat}(hij:(i == j)=true):kS r P N rs vs Q (.b j :: fr) (.exit i) e h=go r P N rs vs Q fr e h:=by
 have:i=j:=by simpa using hij
 subst this;simp[kS,Ez,go]
theorem JQ{i j:Nat}(hij:(i == j)=false):kS r P N rs vs Q (.b j :: fr) (.exit i) e h=kS r P N rs vs Q fr (.exit i) e h:=by
 have:¬ i=j:=by simpa using hij
 simp[kS,Ez,this]
end rules
theorem Ig{P:Program}{b:Bool}{s:SOp}{c:KI}{k d:Nat}{l:Ku}{e:Env}{h:H}{K:KH}:gdY P undef b s c k d l e h K=eb P l (e.set k undef) h K:=rfl
theorem Ia{P:Program}{b:Bool}{s:SOp}{c:KI}{k d:Nat}{l:Ku}{e:Env}{h:H}{K:Env→Prop}:gqY P undef b s c k d l e h K=ez P l (e.set k undef) h K:=rfl
attribute [push_cast] Ig Ia
theorem zO(t q:Bool):ov (.bool t) (.bool true) (.bool q)=some (.bool (t || q)):=by cases t <;> rfl
theorem xM(t p:Bool):ov (.bool t) (.bool p) (.bool false)=some (.bool (t && p)):=by cases t <;> rfl
attribute [push_cast] zO xM Bool.false_or Bool.true_or Bool.or_true Bool.or_false Bool.false_and Bool.and_false Bool.false_eq_true
theorem zp(cs:Kt):l7 [] cs=some cs:=rfl
theorem wy(o n:Nat)(xs cs:Kt)(r:List (Nat × Nat × Kt))(h1:(xs.length == n)=true)(h2:o+n≤cs.length):l7 ((o,n,xs) :: r) cs=l7 r (eo cs o xs):=by
 simp only[l7];rw[if_pos ⟨by simpa using h1,h2⟩]
attribute [push_cast] decide_true decide_false zp wy
theorem Hr(k:IntKind)(a b:Int):mmV false (.int k a) (.int k b)=some (.int k (min a b)):=by
 simp only[mmV,Bool.false_eq_true,if_false];congr 2;omega
theorem I7(k:IntKind)(a b:Int):mmV true (.int k a) (.int k b)=some (.int k (max a b)):=by
 simp only[mmV,if_true];congr 2;omega
attribute [push_cast] Hr I7 GZ Hq Hu Gg Ee Gr Ay wS Kh JW Kl JQ J0
def gxX(P:Program)(h1:H)(v:Value)(b t:Bool)(s:SOp)(c:KI)(d k:Nat)(l:List (Bool × SI))(e:Env)(h:H)(K:KH):Prop :=
 match v with
 | .bool t'=>if t'=b then ew P h1 ((t,⟨none,s,c,0⟩) :: l) (e.set d (.bool b)) h K else ew P h1 l ((e.set d (.bool !b)).set k undef) h K
 | _=>ew P h1 l (e.set k undef) h K
section
variable {P:Program} {e:Env} {h h1:H} {K:KH} {l:List (Bool × SI)} {k d:Nat} {c:KI} {s:SOp} {t b:Bool}
theorem ED:ew P h1 [] e h K=K e h:=rfl
theorem JM:ew P h1 ((true,⟨none,s,c,k⟩) :: l) e h K=ez P [⟨none,s,c,k⟩] e h1 fun e=>ew P h1 l e h K:=rfl
theorem JK:ew P h1 ((false,⟨none,s,c,k⟩) :: l) e h K=eb P [⟨none,s,c,k⟩] e h fun e h=>ow h1 h∧ew P h1 l e h K:=rfl
theorem J3:ew P h1 ((t,⟨some (d,b),s,c,k⟩) :: l) e h K=gxX P h1 (e d) b t s c d k l e h K:=by
 have h0:ew P h1 ((t,⟨some (d,b),s,c,k⟩) :: l) e h K=if gOk (e d) b=true then ew P h1 ((t,⟨none,s,c,0⟩) :: l) e h K else ew P h1 l (e.set k undef) h K:=by
  cases t <;> rfl
 rw[h0];simp only[gxX];cases hv:e d <;> simp only[gOk,Bool.false_eq_true,if_false];rename_i t';by_cases ht:t'=b
 ·subst ht;simp only[beq_self_eq_true,if_true];rw[iH hv]
 ·have:(t' == b)=false:=by simpa using ht
  have h2:(!b)=t':=by cases t' <;> cases b <;> first | rfl | exact absurd rfl ht
  simp only[this,Bool.false_eq_true,if_false,ht];rw[h2,iH hv]
theorem F6:gxX P h1 (.bool true) true t s c d k l e h K=ew P h1 ((t,⟨none,s,c,0⟩) :: l) (e.set d (.bool true)) h K:=by simp[gxX]
theorem FN:gxX P h1 (.bool false) false t s c d k l e h K=ew P h1 ((t,⟨none,s,c,0⟩) :: l) (e.set d (.bool false)) h K:=by simp[gxX]
theorem Gw:gxX P h1 (.bool true) false t s c d k l e h K=ew P h1 l ((e.set d (.bool true)).set k undef) h K:=by simp[gxX]
theorem FJ:gxX P h1 (.bool false) true t s c d k l e h K=ew P h1 l ((e.set d (.bool false)).set k undef) h K:=by simp[gxX]
theorem I1:gxX P h1 undef b t s c d k l e h K=ew P h1 l (e.set k undef) h K:=rfl
theorem gx{t':Bool}(p1:t'=true→gxX P h1 (.bool true) b t s c d k l e h K)(p2:t'=false→gxX P h1 (.bool false) b t s c d k l e h K):gxX P h1 (.bool t') b t s c d k l e h K:=by
 cases t'
 ·exact p2 rfl
 ·exact p1 rfl
theorem DZ:iC P h1 (.leaf l) e h K=ew P h1 l e h K:=rfl
theorem I0{x y:RX}{u v:SI}:iC P h1 (.br l u x v y) e h K=ew P h1 l e h fun e h=>(ew P h1 [(false,u)] e h fun e h=>iC P h1 x e h K)∧(ew P h1 [(false,v)] e h fun e h=>iC P h1 y e h K):=rfl
theorem lQ{G G':Ks}{L:Kw}{D:KF}(hg:∀ b o,G b=some o→G' b=some o):ow ⟨G,L,D⟩ ⟨G',L,D⟩:=⟨hg,List.Sublist.refl _,rfl⟩
theorem ef{G G':Ks}{L L':Kw}{D:KF}(hg:∀ b o,G b=some o→G' b=some o)(hL:L.Sublist L'):ow ⟨G,L,D⟩ ⟨G',L',D⟩:=⟨hg,hL,rfl⟩
theorem Gp{G:Ks}{L:Kw}{D:KF}:ow ⟨G,L,D⟩ ⟨G,L,D⟩:=⟨KO,List.Sublist.refl _,rfl⟩
theorem CI{G:Ks}{L:Kw}{D:KF}:ow ⟨G,L,D⟩ ⟨G,L,D⟩=True:=eq_true Gp
attribute [push_cast] DZ I0 ED JM JK J3 F6 FN Gw FJ I1 CI
end
def gwX(P:Program)(h1:H)(v:Value)(b t z:Bool)(s:SOp)(c:KI)(d k:Nat)(l:List WI)(e:Env)(h:H)(K:KH):Prop :=
 match v with
 | .bool t'=>if t'=b then eH P h1 ((t,z,⟨none,s,c,0⟩) :: l) (e.set d (.bool b)) h K else eH P h1 l ((e.set d (.bool !b)).set k undef) h K
 | _=>eH P h1 l (e.set k undef) h K
def C1(P:Program)(l:List WI)(e:Env)(h:H)(K:KH):Prop:=∃ L1,L1.Sublist h.L∧eH P ⟨h.G,L1,h.D⟩ l e h K
section
variable {P:Program} {e:Env} {h h1:H} {K:KH} {l:List WI} {k d:Nat} {c:KI} {s:SOp} {t b z:Bool}
theorem gG(hk:eH P ⟨h.G,h.L,h.D⟩ l e h K):C1 P l e h K:=⟨h.L,List.Sublist.refl _,hk⟩
theorem De:C1 P [] e h K=K e h:=propext ⟨fun⟨_,_,hk⟩=>hk,fun hk=>⟨h.L,List.Sublist.refl _,hk⟩⟩
theorem E1:eH P h1 [] e h K=K e h:=rfl
theorem JO:eH P h1 ((true,z,⟨none,s,c,k⟩) :: l) e h K=ez P [⟨none,s,c,k⟩] e h1 fun e=>eH P h1 l e h K:=by cases z <;> rfl
theorem JU:eH P h1 ((false,false,⟨none,s,c,k⟩) :: l) e h K=eb P [⟨none,s,c,k⟩] e h fun e h=>ow h1 h∧eH P h1 l e h K:=rfl
theorem Kg:eH P h1 ((false,true,⟨none,s,c,k⟩) :: l) e h K=eb P [⟨none,s,c,k⟩] e h fun e h=>C1 P l e h K:=rfl
theorem Kj:eH P h1 ((t,z,⟨some (d,b),s,c,k⟩) :: l) e h K=gwX P h1 (e d) b t z s c d k l e h K:=by
 have h0:eH P h1 ((t,z,⟨some (d,b),s,c,k⟩) :: l) e h K=if gOk (e d) b=true then eH P h1 ((t,z,⟨none,s,c,0⟩) :: l) e h K else eH P h1 l (e.set k undef) h K:=by
  cases t <;> cases z <;> rfl
 rw[h0];simp only[gwX];cases hv:e d <;> simp only[gOk,Bool.false_eq_true,if_false];rename_i t';by_cases ht:t'=b
 ·subst ht;simp only[beq_self_eq_true,if_true];rw[iH hv]
 ·have:(t' == b)=false:=by simpa using ht
  have h2:(!b)=t':=by cases t' <;> cases b <;> first | rfl | exact absurd rfl ht
  simp only[this,Bool.false_eq_true,if_false,ht];rw[h2,iH hv]
theorem Fs:gwX P h1 (.bool true) true t z s c d k l e h K=eH P h1 ((t,z,⟨none,s,c,0⟩) :: l) (e.set d (.bool true)) h K:=by simp[gwX]
theorem ET:gwX P h1 (.bool false) false t z s c d k l e h K=eH P h1 ((t,z,⟨none,s,c,0⟩) :: l) (e.set d (.bool false)) h K:=by simp[gwX]
theorem EH:gwX P h1 (.bool true) false t z s c d k l e h K=eH P h1 l ((e.set d (.bool true)).set k undef) h K:=by simp[gwX]
theorem FH:gwX P h1 (.bool false) true t z s c d k l e h K=eH P h1 l ((e.set d (.bool false)).set k undef) h K:=by simp[gwX]
theorem HG:gwX P h1 undef b t z s c d k l e h K=eH P h1 l (e.set k undef) h K:=rfl
theorem gw{t':Bool}(p1:t'=true→gwX P h1 (.bool true) b t z s c d k l e h K)(p2:t'=false→gwX P h1 (.bool false) b t z s c d k l e h K):gwX P h1 (.bool t') b t z s c d k l e h K:=by
 cases t'
 ·exact p2 rfl
 ·exact p1 rfl
attribute [push_cast] E1 JO JU Kg Kj Fs ET EH FH HG De
end
abbrev KA:=List Td
end Go.Kx
namespace Go.Kx
open Go Go.RowKit
open List (getElem?_eq_getElem mem_of_getElem? length_append append_nil take_length)
def fc(h:H)(M:H→Prop):Prop:=∀ β w,Sat β h w→∃ h',M h'∧Sat β h' w∧Step β h w β h' w∧(h'.D=h.D∧il h' h)
theorem fc.mono{h:H}{M M':H→Prop}(hg:fc h M)(hm:∀ h',M h'→M' h'):fc h M':=fun β w s=>by
 obtain⟨h',a,b⟩:=hg β w s;exact⟨h',hm _ a,b⟩
theorem fc.of{h h':H}(hg:jf h h'):fc h (· = h'):=fun β w s=>by
 obtain⟨a,b,c⟩:=hg β w s;exact⟨h',rfl,a,b,c⟩
theorem fc.id{h:H}{M:H→Prop}(hm:M h):fc h M:=fun β w s=>⟨h,hm,s,.refl _ _ _,rfl,.refl _⟩
theorem fc.trans{h:H}{M M':H→Prop}(hg:fc h M)(hm:∀ h',M h'→fc h' M'):fc h M':=fun β w s=>by
 obtain⟨h1,a,s1,t1,d1,r1⟩:=hg β w s;obtain⟨h2,a2,s2,t2,d2,r2⟩:=hm h1 a β w s1;exact⟨h2,a2,s2,t1.trans t2,d2.trans d1,r1.trans r2⟩
theorem eS.gx{P f args h}{R R':Value→H→Prop}(hc:eS P f args h R)(hr:∀ v h',R v h'→fc h' (R' v)):eS P f args h R' :=
 ⟨hc.1,fun β w hs=>(hc.2 β w hs).mono fun _ _ ⟨v,h',a,⟨b1,b2⟩,c,d,r⟩=>by
  obtain⟨h2,a2,s2,t2,d2,r2⟩:=hr _ _ r β _ c
  exact⟨v,h2,a,⟨d2.trans b1,b2.trans r2⟩,s2,d.trans t2,a2⟩⟩
section rules
variable {r:KI} {P:Program} {N:Nat} {rs vs:KF} {Q:Exit→KH} {e:Env} {h:H} {fr:KA}
theorem Gi{c:Code}{M:H→Prop}(hg:fc h M)(hc:∀ h',M h'→wpH r P N rs vs c Q e h'):wpH r P N rs vs c Q e h:=by
 intro β a w hr hs;obtain⟨h',m,g1,g2,g3,g4⟩:=hg β w hs;refine wpIn_mono (hc h' m β a w (hr.to g4 g3) g1) ?_;rintro x a' w' ⟨β',e',h'',r',s',st',q⟩;exact⟨β',e',h'',r',s',g2.trans st',q⟩
theorem eI{M:H→Prop}{s:SC}(hg:fc h M)(hk:∀ h',M h'→go r P N rs vs Q (.s s :: fr) e h'):go r P N rs vs Q (.s s :: fr) e h:=fun c hs=>Gi hg fun h' m=>hk h' m c hs
end rules
theorem gB(b j:Nat):Addr.add ⟨b,0,none⟩ j=⟨b,j,none⟩:=by
 unfold Addr.add;split
 ·rename_i h;subst h;rfl
 ·simp
theorem tP(G:Ks)(b j:Nat)(c:Array Value)(t:TypeId)(z:Nat × Nat):fB (fun i=>if i=b then some (.cells c t z)else G i) ⟨b,j,none⟩=c[j]?:=by
 simp[fB]
theorem jx{G:Ks}{L:Kw}{D:KF}{b:Nat}{cs:Kt}:
  fc ⟨G,.blk b cs :: L,D⟩ fun h'=>∃ G',h'=⟨G',L,D⟩∧Gle G G'∧∀ j u,cs[j]?=some u→fB G' (Addr.add ⟨b,0,none⟩ j)=some u:=fun β w s=>by
 obtain⟨t,ht⟩:=s.l (.blk b cs) (List.mem_cons_self ..);obtain⟨s1,st⟩:=oV s (b:=b) rfl ht;refine⟨_,⟨_,rfl,st.gm,fun j u hu=>?_⟩,s1,st,rfl,fun s cs h=>⟨cs,List.mem_cons_of_mem _ h⟩⟩;rw[gB,tP];simpa using hu
theorem Fl{G:Ks}{L:Kw}{D:KF}{v:Value}{et:TypeId}{sz n:Nat}{xs:Kt}:
  fc ⟨G,.row v et sz n xs :: L,D⟩ fun h'=>∃ G',h'=⟨G',L,D⟩∧Gle G G'∧xs.length=n * sz∧∃ A c,v=.slice A n c∧n≤c∧c≤maxLen∧∀ j u,xs[j]?=some u→∃ a,A=some a∧fB G' (a.add j)=some u:=fun β w s=>by
 obtain⟨hl,hok⟩:=s.l (.row v et sz n xs) (List.mem_cons_self ..);rcases hok with⟨A,rfl,rfl⟩ | ⟨g,cap,cur,rfl,hc,hg,hn,hm,hsz,htk⟩
 ·have hx:xs=[]:=by simpa using hl
  subst hx;obtain⟨s1,st,d1,r1⟩:=dX (G:=G) (D:=D) (List.sublist_cons_self (.row (.slice A 0 0) et sz 0 []) L) β w s;refine⟨_,⟨G,rfl,.refl G,by simp,A,0,rfl,Nat.le_refl _,Nat.zero_le _,fun j u hu=>by simp at hu⟩,s1,st,d1,r1⟩
 ·have hc':¬ cap=0:=by omega
  obtain⟨s1,st⟩:=oV s (b:=g) (by simp[Item.block,fh,hc']) hg;refine⟨_,⟨_,rfl,st.gm,hl,_,_,rfl,hn,hm,fun j u hu=>⟨_,rfl,?_⟩⟩,s1,st,rfl,fun s cs h=>⟨cs,List.mem_cons_of_mem _ h⟩⟩;subst htk;rw[List.getElem?_take]at hu;split at hu
  ·rw[gB,tP];simpa using hu
  ·cases hu
inductive Cells {α:Type} (E:α→Kt→Prop) (sz:Nat):List α→Kt→Prop
 | nil:Cells E sz [] []
 | cons {x:α} {xs:List α} {cs ys:Kt} (hE:E x cs) (hl:cs.length=sz) (ht:Cells E sz xs ys):Cells E sz (x :: xs) (cs++ys)
namespace Cells
variable {α:Type} {E:α→Kt→Prop} {sz:Nat} {xs xs':List α} {ys ys':Kt}
theorem len(h:Cells E sz xs ys):ys.length=xs.length * sz:=by
 induction h with
 | nil=>simp
 | cons hE hl ht ih=>rw[length_append,ih,hl,List.length_cons,Nat.add_mul,Nat.one_mul,Nat.add_comm]
theorem app(h:Cells E sz xs ys)(h':Cells E sz xs' ys'):Cells E sz (xs++xs') (ys++ys'):=by
 induction h with
 | nil=>exact h'
 | cons hE hl ht ih=>rw[List.append_assoc];exact .cons hE hl ih
theorem one{x:α}{cs:Kt}(hE:E x cs)(hl:cs.length=sz):Cells E sz [x] cs:=by
 have:=Cells.cons hE hl .nil;simpa using this
theorem split(h:Cells E sz xs ys)(k:Nat)(hk:k≤xs.length):Cells E sz (xs.take k) (ys.take (k * sz))∧Cells E sz (xs.drop k) (ys.drop (k * sz)):=by
 induction h generalizing k with
 | nil=>simp at hk;subst hk;simp;exact .nil
 | cons hE hl ht ih =>
  cases k with
  | zero=>simp;exact⟨.nil,.cons hE hl ht⟩
  | succ k =>
   obtain⟨a,b⟩:=ih k (by simpa using hk);rename_i cs ys;have e1:(k+1) * sz=cs.length+k * sz:=by rw[Nat.add_mul,Nat.one_mul,hl,Nat.add_comm]
   rw[e1,List.take_length_add_append,List.drop_length_add_append];exact⟨.cons hE hl a,b⟩
theorem get(h:Cells E sz xs ys){k:Nat}{x:α}(hx:xs[k]?=some x):∃ cs,E x cs∧cs.length=sz∧∀ o u,cs[o]?=some u→ys[k * sz+o]?=some u:=by
 induction h generalizing k with
 | nil=>simp at hx
 | cons hE hl ht ih =>
  rename_i x0 xs0 cs0 ys0;cases k with
  | zero =>
   simp at hx;subst hx;refine⟨_,hE,hl,fun o u hu=>?_⟩;rw[Nat.zero_mul,Nat.zero_add,List.getElem?_append_left (List.getElem?_eq_some_iff.1 hu).1];exact hu
  | succ k =>
   obtain⟨cs,a,b,c⟩:=ih (by simpa using hx);refine⟨cs,a,b,fun o u hu=>?_⟩;have e1:(k+1) * sz+o=cs0.length+(k * sz+o):=by rw[Nat.add_mul,Nat.one_mul,hl];omega
   rw[e1,List.getElem?_append_right (by omega),Nat.add_sub_cancel_left];exact c o u hu
theorem slA{G:Ks}{A:Ky}(h:Cells E sz xs ys)(hc:∀ j u,ys[j]?=some u→∃ a,A=some a∧fB G (a.add j)=some u)(h0:0 < sz):SlA G E sz A xs:=fun i x hx=>by
 obtain⟨cs,h1,h2,h3⟩:=h.get hx;obtain⟨a,ha,_⟩:=hc (i * sz+0) _ (h3 0 (cs[0]'(by omega)) (getElem?_eq_getElem (by omega)));refine⟨a,cs,ha,h2,h1,fun j u hu=>?_⟩;obtain⟨a',ha',hc'⟩:=hc _ u (h3 j u hu);rw[ha]at ha';cases ha';exact hc'
end Cells
theorem kA{α:Type}{E:α→Kt→Prop}{G:Ks}{L:Kw}{D:KF}{v:Value}{et:TypeId}{sz n:Nat}{ys:Kt}{xs:List α}(h0:0 < sz)(hc:Cells E sz xs ys):
  fc ⟨G,.row v et sz n ys :: L,D⟩ fun h'=>∃ G',h'=⟨G',L,D⟩∧Gle G G'∧SlV G' E sz v xs:=Fl.mono fun h' ⟨G',h1,h2,h3,A,c,h4,h5,h6,h7⟩=>by
 have hn:n=xs.length:=by
  have:=hc.len;rw[h3]at this;exact Nat.eq_of_mul_eq_mul_right h0 this
 subst hn;exact⟨G',h1,h2,A,c,h4,h5,h6,hc.slA h7 h0⟩
theorem SlA.cells{α:Type}{E:α→Kt→Prop}{sz:Nat}{G:Ks}{A:Ky}{xs:List α}(h:SlA G E sz A xs)(hxs:xs≠[]→∃ a,A=some a):
  ∃ ys,Cells E sz xs ys∧∀ j u,ys[j]?=some u→∃ a,A=some a∧fB G (a.add j)=some u:=by
 induction xs generalizing A with
 | nil=>exact⟨[],.nil,fun j u hu=>by simp at hu⟩
 | cons x xs ih =>
  obtain⟨a,cs,ha,h1,h2,h3⟩:=h 0 x rfl;subst ha;obtain⟨ys,h4,h5⟩:=ih (A:=some (a.add sz)) (fun i y hy=>by
   obtain⟨a',cs',ha',g1,g2,g3⟩:=h (i+1) y (by simpa using hy)
   cases ha'
   refine⟨_,cs',rfl,g1,g2,fun j u hu=>?_⟩
   have:=g3 j u hu
   rw[gy]
   rw[← this]
   congr 2
   rw[Nat.add_mul,Nat.one_mul]
   omega) (fun _=>⟨_,rfl⟩)
  refine⟨cs++ys,.cons h2 h1 h4,fun j u hu=>⟨a,rfl,?_⟩⟩;rw[List.getElem?_append]at hu;split at hu
  ·have:=h3 j u hu
   rwa [Nat.zero_mul,Nat.zero_add]at this
  ·obtain⟨a',ha',hc⟩:=h5 _ u hu;cases ha';rw[gy]at hc;rw[← hc];congr 2;omega
theorem SlV.src{α:Type}{E:α→Kt→Prop}{sz:Nat}{G:Ks}{v:Value}{xs:List α}(h:SlV G E sz v xs)(L:Kw)(D:KF)(h1:∀ x cs,E x cs→∀ u∈cs,u.oneCell'=true):
  ∃ ys,Cells E sz xs ys∧Ex ⟨G,L,D⟩ v sz xs.length ys:=by
 obtain⟨A,c,rfl,hc,hm,hA⟩:=h;have hone:∀ {xs:List α} {ys:Kt},Cells E sz xs ys→∀ u∈ys,u.oneCell'=true:=fun hcs=>by
  induction hcs with
  | nil=>simp
  | cons hE hl ht ih =>
   intro u hu;rcases List.mem_append.1 hu with h | h
   ·exact h1 _ _ hE u h
   ·exact ih u h
 obtain⟨ys,h2,h3⟩:=hA.cells (fun hne=>by
  match xs,hne with
  | x :: xs,_ =>
   obtain⟨a,_,ha,_⟩:=hA 0 x rfl
   exact⟨a,ha⟩)
 refine⟨ys,h2,hone h2,h2.len,?_⟩;cases A with
 | none =>
  refine .inl ⟨c,?_,?_⟩
  ·match xs,hA with
   | [],_=>rfl
   | x :: xs,hA=>obtain⟨a,_,ha,_⟩:=hA 0 x rfl;cases ha
  ·match xs,hA with
   | [],_=>rfl
   | x :: xs,hA=>obtain⟨a,_,ha,_⟩:=hA 0 x rfl;cases ha
 | some a =>
  refine .inr (.inl ⟨a,c,rfl,fun j u hu=>?_⟩);obtain⟨a',ha',hc'⟩:=h3 j u hu;cases ha';exact .g hc'
section forms
variable {P:Program} {f:FuncId} {args:Array Value} {G:Ks} {rl:KB}
theorem FnO.fnD{L1:Kw}{R:(Ks)→Kw→Value→Prop}{R':(Ks)→Value→Prop}(hf:FnO P f args G [] R)
  (hr:∀ G' L' v,R G' L' v→Gle G G'→∀ L D,fc ⟨G',L'++L,D⟩ fun h'=>∃ G2,h'=⟨G2,L,D⟩∧Gle G' G2∧R' G2 v):FnD P f args G R':=fun L D =>
 (hf L D).gx fun v h' ⟨G',L',he,hg,hR⟩=>by
  subst he;exact(hr G' L' v hR hg L D).mono fun h' ⟨G2,h1,h2,h3⟩=>⟨G2,h1,hg.trans h2,h3⟩
theorem ee{e:Env}{h:H}{R:Value→H→Prop}{out:Kt}(L':Kw)(hr:mR e h rl=some out)(hs:L'.Sublist h.L)(hn:eC L')(hv:R (tt out) ⟨h.G,L',[]⟩):fI rl R .ret e h :=
 ⟨out,hr,⟨h.G,L',[]⟩,dX hs,hn,hv⟩
theorem ec{b:Nat}{cs:Kt}{L:Kw}(h:eC L):eC (.blk b cs :: L):=fun s cs' hm=>by
 rcases List.mem_cons.1 hm with h' | h'
 ·cases h'
 ·exact h s cs' h'
theorem dW{v:Value}{et:TypeId}{sz n:Nat}{xs:Kt}{L:Kw}(h:eC L):eC (.row v et sz n xs :: L):=fun s cs' hm=>by
 rcases List.mem_cons.1 hm with h' | h'
 ·cases h'
 ·exact h s cs' h'
end forms
end Go.Kx
namespace Go.Kx
open Go Go.RowKit
open List (getElem?_eq_getElem mem_of_getElem? length_append append_nil take_length)
theorem fc.fact{h:H}{p:Prop}(hf:∀ β w,Sat β h w→p):fc h fun h'=>h'=h∧p:=fun β w s=>⟨h,⟨rfl,hf β w s⟩,s,.refl _ _ _,rfl,.refl _⟩
theorem iE{h:H}{v:Value}{et:TypeId}{sz n:Nat}{xs:Kt}(hm:Item.row v et sz n xs∈h.L)(hn:0 < n):
  fc h fun h'=>h'=h∧∃ g c,v=.slice (some ⟨g,0,none⟩) n c∧n≤c∧c≤maxLen:=fc.fact fun β w s=>by
 obtain⟨hl,hok⟩:=s.l _ hm;rcases hok with⟨A,rfl,rfl⟩ | ⟨g,cap,cur,rfl,hc,hg,hn,hm,hsz,htk⟩
 ·omega
 ·exact⟨g,cap,rfl,hn,hm⟩
theorem gL{h:H}{v:Value}{et:TypeId}{sz n:Nat}{xs:Kt}(hm:Item.row v et sz n xs∈h.L):
  fc h fun h'=>h'=h∧∃ A c,v=.slice A n c∧n≤c∧c≤maxLen:=fc.fact fun β w s=>by
 obtain⟨hl,hok⟩:=s.l _ hm;rcases hok with⟨A,rfl,rfl⟩ | ⟨g,cap,cur,rfl,hc,hg,hn,hm,hsz,htk⟩
 ·exact⟨A,0,rfl,Nat.le_refl _,Nat.zero_le _⟩
 ·exact⟨_,cap,rfl,hn,hm⟩
section loads
variable {α:Type} {G:Ks} {E:α→Kt→Prop} {sz:Nat} {A:Ky} {xs:List α} {P:Program} {h:H} {d:Nat} {l:Ku}
theorem SlA.lt{k:Nat}{x:α}(hx:xs[k]?=some x):(k:Int) < xs.length:=by
 have:=(List.getElem?_eq_some_iff.1 hx).1;omega
theorem SlA.x_ld{K:KH}{e:Addr→Env}{j:Int}{k:Nat}{x:α}(hA:SlA G E sz A xs)(hx:xs[k]?=some x)(hj:j=k)(hG:h.G=G)
  (hk:∀ a,A=some a→∀ cs,E x cs→kR P l d (e a) K (.agg cs.toArray) h):(0≤j∧j < xs.length)∧∃ a,A=some a∧ldX P (.pointer (some (a.add (j.toNat * sz)))) (some sz) d l (e a) h K:=by
 obtain⟨G',L,D⟩:=h;dsimp only at hG;subst hG;obtain⟨a,cs,ha,hE,_,hld,_⟩:=hA.at_ hx L D;have:=SlA.lt hx;subst hj;exact⟨by omega,a,ha,_,by simpa using hld,hk a ha cs hE⟩
theorem SlA.x_lf{K:KH}{e:Addr→Env}{j:Int}{k o:Nat}{u:Value}{x:α}(hA:SlA G E sz A xs)(hx:xs[k]?=some x)(hj:j=k)(hG:h.G=G)(hu:∀ cs,E x cs→cs[o]?=some u)
  (hk:∀ a,A=some a→kR P l d (e a) K u h):(0≤j∧j < xs.length)∧∃ a,A=some a∧ldX P (.pointer (some ((a.add (j.toNat * sz)).add o))) none d l (e a) h K:=by
 obtain⟨G',L,D⟩:=h;dsimp only at hG;subst hG;obtain⟨a,cs,ha,hE,_,_,hld⟩:=hA.at_ hx L D;have:=SlA.lt hx;subst hj;exact⟨by omega,a,ha,_,by simpa using hld o u (hu cs hE),hk a ha⟩
theorem SlA.x_l1{K:KH}{e:Addr→Env}{j:Int}{k:Nat}{x:α}(hA:SlA G E 1 A xs)(hx:xs[k]?=some x)(hj:j=k)(hG:h.G=G)
  (hk:∀ a,A=some a→∀ u,E x [u]→kR P l d (e a) K u h):(0≤j∧j < xs.length)∧∃ a,A=some a∧ldX P (.pointer (some (a.add (j.toNat * 1)))) none d l (e a) h K:=by
 obtain⟨G',L,D⟩:=h;dsimp only at hG;subst hG;obtain⟨a,u,ha,hE,hld⟩:=hA.at1 hx L D;have:=SlA.lt hx;subst hj;exact⟨by omega,a,ha,_,by simpa using hld,hk a ha u hE⟩
theorem SlA.y_ld{K:Env→Prop}{e:Addr→Env}{j:Int}{k:Nat}{x:α}(hA:SlA G E sz A xs)(hx:xs[k]?=some x)(hj:j=k)(hG:h.G=G)
  (hk:∀ a,A=some a→∀ cs,E x cs→kQ P l d (e a) h K (.agg cs.toArray)):(0≤j∧j < xs.length)∧∃ a,A=some a∧lqX P (.pointer (some (a.add (j.toNat * sz)))) (some sz) d l (e a) h K:=by
 obtain⟨G',L,D⟩:=h;dsimp only at hG;subst hG;obtain⟨a,cs,ha,hE,_,hld,_⟩:=hA.at_ hx L D;have:=SlA.lt hx;subst hj;exact⟨by omega,a,ha,_,by simpa using hld,hk a ha cs hE⟩
theorem SlA.y_lf{K:Env→Prop}{e:Addr→Env}{j:Int}{k o:Nat}{u:Value}{x:α}(hA:SlA G E sz A xs)(hx:xs[k]?=some x)(hj:j=k)(hG:h.G=G)(hu:∀ cs,E x cs→cs[o]?=some u)
  (hk:∀ a,A=some a→kQ P l d (e a) h K u):(0≤j∧j < xs.length)∧∃ a,A=some a∧lqX P (.pointer (some ((a.add (j.toNat * sz)).add o))) none d l (e a) h K:=by
 obtain⟨G',L,D⟩:=h;dsimp only at hG;subst hG;obtain⟨a,cs,ha,hE,_,_,hld⟩:=hA.at_ hx L D;have:=SlA.lt hx;subst hj;exact⟨by omega,a,ha,_,by simpa using hld o u (hu cs hE),hk a ha⟩
theorem SlA.y_l1{K:Env→Prop}{e:Addr→Env}{j:Int}{k:Nat}{x:α}(hA:SlA G E 1 A xs)(hx:xs[k]?=some x)(hj:j=k)(hG:h.G=G)
  (hk:∀ a,A=some a→∀ u,E x [u]→kQ P l d (e a) h K u):(0≤j∧j < xs.length)∧∃ a,A=some a∧lqX P (.pointer (some (a.add (j.toNat * 1)))) none d l (e a) h K:=by
 obtain⟨G',L,D⟩:=h;dsimp only at hG;subst hG;obtain⟨a,u,ha,hE,hld⟩:=hA.at1 hx L D;have:=SlA.lt hx;subst hj;exact⟨by omega,a,ha,_,by simpa using hld,hk a ha u hE⟩
end loads
theorem j5{α:Type}{E:α→Kt→Prop}{G:Ks}{P:Program}{h:H}{d:Nat}{l:Ku}{e:Env}{K:KH}{sz et nb n:Nat}{x y:Value}{xs:List α}{L1 L2:Kw}{zs:Kt}
  (hr:Az h.L x et sz L1 n zs L2) (hy:SlV G E sz y xs) (hG:h.G=G) (h1:∀ x cs,E x cs→∀ u∈cs,u.oneCell'=true) (hb:(n+xs.length) * nb≤140737488355328∧n+xs.length≤maxLen)
  (hk:∀ ys A c,Cells E sz xs ys→kR P l d e K (.slice A (n+xs.length) c) { h with L:=L1++.row (.slice A (n+xs.length) c) et sz (n+xs.length) (zs++ys) :: L2 }):apX P x y et sz nb d l e h K:=by
 obtain⟨G',L,D⟩:=h;dsimp only at hG;subst hG;obtain⟨ys,hc,hs⟩:=hy.src L D h1;exact⟨L1,n,zs,L2,xs.length,ys,hr,hs,hb,fun A c=>hk ys A c hc⟩
theorem nJ{G:Ks}{L1 L2:Kw}{D:KF}{A:Ky}{n c m et sz:Nat}{xs:Kt}(hm:m≤n):
  jf ⟨G,L1++.row (.slice A n c) et sz n xs :: L2,D⟩ ⟨G,L1++.row (.slice A m c) et sz m (xs.take (m * sz)) :: L2,D⟩:=fun β w s=>by
 obtain⟨hl,hok⟩:=s.l (.row (.slice A n c) et sz n xs) (by simp);have hmn:m * sz≤n * sz:=Nat.mul_le_mul_right _ hm;have hblk:∀ b,fh (.slice A m c)=some b→fh (.slice A n c)=some b:=fun b h=>by
  cases A with
  | none=>simp[fh]at h
  | some a=>exact h
 obtain⟨s1,s2⟩:=kM (it':=.row (.slice A m c) et sz m (xs.take (m * sz))) s rfl rfl rfl (Nat.le_refl _) (fun _ _ _=>rfl) (by
  refine⟨by rw[List.length_take,hl,Nat.min_eq_left hmn],?_⟩
  rcases hok with⟨A',hA,rfl⟩ | ⟨g,cap,cur,hA,h1,h2,h3,h4,h5,h6⟩
  ·cases hA
   have:m=0:=by omega
   subst this
   exact .inl ⟨A,rfl,rfl⟩
  ·cases hA
   refine .inr ⟨g,c,cur,rfl,h1,h2,by omega,h4,h5,?_⟩
   rw[← h6,List.take_take,Nat.min_eq_left hmn]) (fun b hb=>.inl (hblk b hb))
 exact⟨s1,s2,rfl,lq (fun _ _ hc=>by cases hc)⟩
theorem kO{h:H}{g n c et sz m:Nat}{ys:Kt}(hm:Item.row (.slice (some ⟨g,0,none⟩) n c) et sz m ys∈h.L)(h1:∀ u∈ys,u.oneCell'=true)(h2:ys.length=n * sz):Ex h (.slice (some ⟨g,0,none⟩) n c) sz n ys :=
 ⟨h1,h2,.inr (.inl ⟨_,c,rfl,fun j u hu=>by rw[gB];exact .row hm hu⟩)⟩
theorem ff{h:H}{g n c et sz m i:Nat}{ys:Kt}{v:Value}(hm:Item.row (.slice (some ⟨g,0,none⟩) n c) et sz m ys∈h.L)(hv:ys[i]?=some v):LdN h (.pointer (some ⟨g,i,none⟩)) none v :=
 ⟨_,rfl,.row hm hv⟩
theorem eV(b i j:Nat):Addr.add ⟨b,i,none⟩ j=⟨b,i+j,none⟩:=by
 unfold Addr.add;split
 ·rename_i h;subst h;rfl
 ·rfl
theorem fG{P:Program}{h:H}{K:KH}{l:Ku}{e:Env}{g o n' c et sz n k:Nat}{xs ys:Kt}(L1 L2:Kw)(hL:h.L=L1++.row (.slice (some ⟨g,0,none⟩) n' c) et sz n ys :: L2)(ho:o+xs.length≤ys.length)
  (h1:xs.length=k∧xs.all (·.oneCell')=true) (hk:eb P l e { h with L:=L1++.row (.slice (some ⟨g,0,none⟩) n' c) et sz n (eo ys o xs) :: L2 } K):stX P (.pointer (some ⟨g,o,none⟩)) xs k l e h K:=by
 refine⟨_,?_,h1,hk⟩;rw[hL];exact .row L1 ho
theorem Cells.set{α:Type}{E:α→Kt→Prop}{sz:Nat}{xs:List α}{ys:Kt}(h:Cells E sz xs ys){k:Nat}{x:α}{cs:Kt}(hk:k < xs.length)(hE:E x cs)(hl:cs.length=sz):Cells E sz (xs.set k x) (eo ys (k * sz) cs):=by
 obtain⟨a,-⟩:=h.split k (by omega);obtain⟨-,b⟩:=h.split (k+1) (by omega);have:eo ys (k * sz) cs=ys.take (k * sz)++(cs++ys.drop ((k+1) * sz)):=by
  rw[eo,hl,Nat.add_mul,Nat.one_mul,List.append_assoc]
 rw[this,List.set_eq_take_append_cons_drop,if_pos hk];exact a.app (.cons hE hl b)
theorem xi(n:Nat)(hn:0 < n)(hm:n≤maxLen):IntKind.i64.wrap ((n:Int) - 1)=((n - 1:Nat):Int):=by
 unfold maxLen at hm;rw[ei] <;> omega
def slY(P:Program)(A:Ky)(c:Nat)(lw u m:Option Int)(sz d:Nat)(l:Ku)(e:Env)(h:H)(K:KH):Prop :=
 match lw,u,m with
 | some lw,some u,some m=>(0≤lw∧lw≤u∧u≤m∧m≤c)∧kR P l d e K (.slice (if m.toNat=lw.toNat then A else A.map (·.add (lw.toNat * sz))) (u.toNat - lw.toNat) (m.toNat - lw.toNat)) h
 | _,_,_=>False
def sqY(P:Program)(A:Ky)(c:Nat)(lw u m:Option Int)(sz d:Nat)(l:Ku)(e:Env)(h:H)(K:Env→Prop):Prop :=
 match lw,u,m with
 | some lw,some u,some m=>(0≤lw∧lw≤u∧u≤m∧m≤c)∧kQ P l d e h K (.slice (if m.toNat=lw.toNat then A else A.map (·.add (lw.toNat * sz))) (u.toNat - lw.toNat) (m.toNat - lw.toNat))
 | _,_,_=>False
section slicing
variable {P:Program} {A:Ky} {n c sz d:Nat} {l:Ku} {e:Env} {h:H} {K:KH} {Kq:Env→Prop} {lo hi mx:Option O}
theorem Hn:slX P (.slice A n c) lo hi mx sz d l e h K=slY P A c (bnd e 0 lo) (bnd e n hi) (bnd e c mx) sz d l e h K:=rfl
theorem H1:sqX P (.slice A n c) lo hi mx sz d l e h Kq=sqY P A c (bnd e 0 lo) (bnd e n hi) (bnd e c mx) sz d l e h Kq:=rfl
theorem Ih{u m:Int}:slY P A c (some 0) (some u) (some m) sz d l e h K=((0≤u∧u≤m∧m≤c)∧kR P l d e K (.slice A u.toNat m.toNat) h):=by
 have:(if m.toNat=(0:Int).toNat then A else A.map (·.add ((0:Int).toNat * sz)))=A:=by
  split
  ·rfl
  ·cases A <;> simp[Addr.add]
 simp only[slY,this];simp
theorem IC{u m:Int}:sqY P A c (some 0) (some u) (some m) sz d l e h Kq=((0≤u∧u≤m∧m≤c)∧kQ P l d e h Kq (.slice A u.toNat m.toNat)):=by
 have:(if m.toNat=(0:Int).toNat then A else A.map (·.add ((0:Int).toNat * sz)))=A:=by
  split
  ·rfl
  ·cases A <;> simp[Addr.add]
 simp only[sqY,this];simp
theorem Iq{lw u m:Int}:slY P A c (some lw) (some u) (some m) sz d l e h K=((0≤lw∧lw≤u∧u≤m∧m≤c)∧kR P l d e K (.slice (if m.toNat=lw.toNat then A else A.map (·.add (lw.toNat * sz))) (u.toNat - lw.toNat) (m.toNat - lw.toNat)) h):=rfl
theorem HN(e:Env)(j:Int):bnd e j none=some j:=rfl
theorem Jb(e:Env)(j:Int)(o:O):bnd e j (some o)=GX (ev e o):=rfl
theorem Gt(k:IntKind)(j:Int):GX (.int k j)=some j:=rfl
end slicing
attribute [push_cast] Hn H1 Ih IC HN Jb Gt
theorem Jf{P:Program}{cs:Kt}{d:Nat}{l:Ku}{e:Env}{h:H}{K:KH}:alX P cs d l e h K=∀ b,h.G b=none→kR P l d e K (.pointer (some ⟨b,0,none⟩)) { h with L:=.blk b cs :: h.L }:=rfl
attribute [push_cast] Jf
theorem Fb(A:Ky)(n c:Nat):Dg false (.slice A n c)=some (.bool A.isNone):=rfl
theorem GJ(A:Ky)(n c:Nat):Dg true (.slice A n c)=some (.bool A.isSome):=rfl
theorem zD(A:Ky):eqA A none=some A.isNone:=by cases A <;> rfl
theorem EJ(g i j:Nat):eqA (some ⟨g,i,none⟩) (some ⟨g,j,none⟩)=some (decide (i=j)):=by
 simp only[eqA,if_true];congr 1;by_cases h:i=j
 ·subst h;simp
 ·rw[beq_eq_false_iff_ne.2 fun he=>h (by injection he)];simp[h]
attribute [push_cast] eV zD EJ Fb GJ Option.isNone_none Option.isNone_some Option.isSome_none Option.isSome_some
end Go.Kx
namespace Go.Kx
open Go Go.RowKit
open List (getElem?_eq_getElem mem_of_getElem? length_append append_nil take_length)
theorem eS.ghost{P f args h h'}{R:Value→H→Prop}(hg:jf h h')(hc:eS P f args h' R):eS P f args h R :=
 ⟨hc.1,fun β w hs=>by
  obtain⟨s1,t1,d1,r1⟩:=hg β w hs
  exact(hc.2 β w s1).mono fun _ _ ⟨v,h2,a,⟨b1,b2⟩,c,d,r⟩=>⟨v,h2,a,⟨b1.trans d1,r1.trans b2⟩,c,t1.trans d,r⟩⟩
theorem Fun.enters{P:Program}{f:FuncId}{N:Nat}{V:Kz}{s:SC}{rl:KB}(hf:Fun P f N V s rl):iy P f:=by
 obtain⟨_,_,_,_,_,_,_,h⟩:=hf.ok;exact h
theorem FX{α:Type}{E:α→Kt→Prop}{P f args}{G:Ks}{L:Kw}{D:KF}{R:Value→Prop}{v:Value}{et sz n:Nat}{ys:Kt}{xs:List α}(hE:iy P f)(h0:0 < sz)(hc:Cells E sz xs ys)
  (hf:∀ G',Gle G G'→SlV G' E sz v xs→eS P f args ⟨G',L,D⟩ fun r h'=>R r∧h'=⟨G',L,D⟩) :
  eS P f args ⟨G,.row v et sz n ys :: L,D⟩ fun r h'=>R r∧h'=⟨G,.row v et sz n ys :: L,D⟩ :=
 ⟨hE,fun β w hs=>by
  obtain⟨h1,⟨G',rfl,hg,hv⟩,s1,t1,d1,r1⟩:=kA (et:=et) h0 hc β w hs
  refine((hf G' hg hv).2 β w s1).mono ?_
  rintro x w' ⟨r,h2,rfl,⟨b1,b2⟩,s2,t2,hr,rfl⟩
  refine⟨r,_,rfl,⟨rfl,.refl _⟩,?_,?_,hr,rfl⟩
  ·refine⟨fun b o ho=>s2.g b o (hg b o ho),fun it hit=>?_,hs.nd,hs.df,s2.d⟩
   rcases List.mem_cons.1 hit with rfl | hit
   ·refine Item.ok_of (hs.l _ (List.mem_cons_self ..)) (fun b hb=>?_) rfl
    have hlt:b < w.heap.size:=Item.ok_lt (hs.l _ (List.mem_cons_self ..)) hb
    refine t2.old b hlt fun hm=>?_
    have hnd:=hs.nd
    simp only[gA,hb]at hnd
    simp only[Option.toList_some,List.singleton_append,List.cons_append,List.nodup_cons]at hnd
    exact hnd.1 (List.mem_append_left _ hm)
   ·exact s2.l it hit
  ·exact⟨t2.os,t2.tape,t2.output,t2.size,fun b hb hn=>t2.old b hb fun hm=>hn (by rw[gA];exact List.mem_append_right _ hm),KO,fun _ h h'=>absurd h h',fun _ h=>.inl h,[],rfl,by simp⟩⟩
theorem u4(a b xs:Kt)(o:Nat):eo (a++b) (a.length+o) xs=a++eo b o xs:=by
 rw[eo,eo,List.take_length_add_append,Nat.add_assoc,List.drop_length_add_append];simp
theorem sh(a b xs:Kt)(o:Nat)(h:o+xs.length≤a.length):eo (a++b) o xs=eo a o xs++b:=by
 rw[eo,eo,List.take_append_of_le_length (by omega),List.drop_append_of_le_length h];simp
theorem Cells.setF{α:Type}{E:α→Kt→Prop}{sz:Nat}{xs:List α}{ys:Kt}(h:Cells E sz xs ys){k o:Nat}{x x':α}{us:Kt}(hx:xs[k]?=some x)(ho:o+us.length≤sz)
  (hE:∀ cs,E x cs→cs.length=sz→E x' (eo cs o us)):Cells E sz (xs.set k x') (eo ys (k * sz+o) us):=by
 have hk:k < xs.length:=(List.getElem?_eq_some_iff.1 hx).1;obtain⟨a,b⟩:=h.split k (by omega);have hl:=h.len;have hlt:(ys.take (k * sz)).length=k * sz:=by
  rw[List.length_take,hl];exact Nat.min_eq_left (Nat.mul_le_mul_right _ (by omega))
 have hd:xs.drop k=x :: xs.drop (k+1):=by
  rw[List.drop_eq_getElem_cons hk];congr 1;exact(List.getElem?_eq_some_iff.1 hx).2
 rw[hd]at b;generalize hyd:ys.drop (k * sz)=yd at b;cases b with
 | cons hE' hl' ht =>
  rename_i cs rest;have e1:ys=ys.take (k * sz)++(cs++rest):=by rw[← hyd,List.take_append_drop]
  have e2:eo ys (k * sz+o) us=ys.take (k * sz)++(eo cs o us++rest):=by
   have:=u4 (ys.take (k * sz)) (cs++rest) us o;rw[hlt,← e1,sh _ _ _ _ (by omega)]at this;exact this
  rw[e2,List.set_eq_take_append_cons_drop,if_pos hk];refine a.app (.cons (hE _ hE' hl') ?_ ht);simp[eo,hl'];omega
end Go.Kx
namespace Go.Kx
open Go Go.RowKit Go.ChangeShapes Go.WideShapes Go.Deep
open List (getElem?_eq_getElem mem_of_getElem? length_append append_nil take_length)
def pF(W:World):Ks:=fun b=>W.heap[b]?
theorem D9(W:World):Sat (fun _=>0) ⟨pF W,[],[]⟩ W :=
 ⟨KO,(fun _ h=>by cases h),List.nodup_nil,(fun _ h=>by cases h),(fun _ h=>by cases h)⟩
theorem FnS.calls{P:Program}{f:FuncId}{args:Array Value}{W:World}{v:Value}(h:FnS P f args (pF W) v):Calls P f args W fun e w'=>e=.returned v∧Below W.heap.size W w':=by
 refine((h [] []).2 _ W (D9 W)).mono ?_;rintro x w' ⟨r,h',rfl,_,s,t,rfl,rfl⟩;exact⟨rfl,t.os,t.tape,t.output,t.size,fun k hk=>t.old k hk (by simp[dom])⟩
theorem xk{W:World}{a:Addr}{v:Value}(h:W.cell? a=some v):fB (pF W) a=some v:=by
 unfold fB pF;unfold World.cell? at h;exact h
theorem Ba{α:Type}{E:α→Kt→Prop}{sz:Nat}{G:Ks}{a:Addr}:∀ (n:Nat),(∀ i,i < n→∃ (x:α) (cs:Kt),cs.length=sz∧E x cs∧∀ j u,cs[j]?=some u→fB G (a.add (i * sz+j))=some u) →
  ∃ xs:List α,xs.length=n∧SlA G E sz (some a) xs
 | 0,_=>⟨[],rfl,fun i x hx=>by simp at hx⟩
 | n+1,h=>by
  obtain⟨xs,hl,hA⟩:=Ba n fun i hi=>h i (by omega)
  obtain⟨x,cs,h1,h2,h3⟩:=h n (by omega);refine⟨xs++[x],by simp[hl],fun i y hy=>?_⟩;rw[List.getElem?_append]at hy;split at hy
  ·exact hA i y hy
  ·rename_i hi;have:i=n:=by
    have:=(List.getElem?_eq_some_iff.1 hy).1;simp at this;omega
   subst this;rw[hl]at hy;simp at hy;subst hy;exact⟨a,cs,rfl,h1,h2,h3⟩
section
variable {H:Type} {enc:TypeId × Value→H} {P:Program} {w:World} {base:Nat} {spare:Nat→Bool} {held:Bool}
end
end Go.Kx
namespace Go.Kx
open Go Go.RowKit
open List (getElem?_eq_getElem mem_of_getElem? length_append append_nil take_length)
section
variable {β β' β2:Nat→Nat} {G G':Ks} {L L' L2:Kw} {D:KF} {w w':World} {h:H} {P:Program}
theorem CU(hs:Sat β ⟨G,L,D⟩ w):Sat β ⟨G,L,[]⟩ w :=
 ⟨hs.g,hs.l,by simpa using hs.nd',fun b hb=>hs.df b (by simp only[append_nil]at hb;exact List.mem_append_left _ hb),fun _ h=>by cases h⟩
theorem BN{D':KF}(st:Step β ⟨G,L,D⟩ w β' ⟨G',L',D'⟩ w'):Step β ⟨G,L,[]⟩ w β' ⟨G',L',[]⟩ w' :=
 ⟨st.os,st.tape,st.output,st.size,st.old,st.gm,st.gn,st.ln,[],rfl,by simp⟩
theorem u5(hn:eC L)(hs:Sat β' ⟨G,L,D⟩ w):Sat β ⟨G,L,D⟩ w:=by
 have hd:dom β' L=dom β L:=jJ hn;exact⟨hs.g,fun it hit=>nA (fun s cs he=>hn s cs (he ▸ hit)) (hs.l it hit),by have:=hs.nd;rw[hd]at this;exact this,fun b hb=>hs.df b (by rw[hd];exact hb),hs.d⟩
theorem sB(hn:eC L)(st:Step β h w β' ⟨G,L,D⟩ w'):Step β h w β2 ⟨G,L,D⟩ w':=by
 have hd:dom β' L=dom β2 L:=jJ hn;exact⟨st.os,st.tape,st.output,st.size,st.old,st.gm,st.gn,fun b hb=>st.ln b (by rw[hd];exact hb),st.dn⟩
theorem frame(hs:Sat β ⟨G,L++L2,D⟩ w)(hs':Sat β' ⟨G',L',[]⟩ w')(st:Step β ⟨G,L,[]⟩ w β' ⟨G',L',[]⟩ w')(hb:∀ it∈L2,it.block β'=it.block β):
  Sat β' ⟨G',L'++L2,D⟩ w'∧Step β ⟨G,L++L2,D⟩ w β' ⟨G',L'++L2,D⟩ w':=by
 have hnd0:=List.nodup_append.1 hs.nd;have hndL:=hnd0.1;rw[eD]at hndL;have hndL':=List.nodup_append.1 hndL;have hd2:dom β' L2=dom β L2:=by
  unfold dom;clear hs hnd0 hndL hndL'
  induction L2 with
  | nil=>rfl
  | cons it l ih =>
   have h1:=hb it (by simp);have h2:=ih (fun x hx=>hb x (by simp[hx]));simp only[List.filterMap_cons,h1,h2]
 have hlt2:∀ b,b∈dom β L2∨b∈D→b < w.heap.size:=fun b hb=>by
  rcases hb with hb | hb
  ·exact hs.dom_lt (by rw[eD];simp[hb])
  ·exact hs.d_lt hb
 have hn1:∀ b,b∈dom β L2∨b∈D→b∉dom β L:=fun b hb hm=>by
  rcases hb with hb | hb
  ·exact hndL'.2.2 b hm b hb rfl
  ·exact hnd0.2.2 b (by rw[eD];simp[hm]) b hb rfl
 have hkeep:∀ b,b∈dom β L2∨b∈D→w'.heap[b]?=w.heap[b]?:=fun b hb=>st.old b (hlt2 b hb) (hn1 b hb)
 have hsep:∀ b,b∈dom β' L'→¬ (b∈dom β L2∨b∈D):=fun b hb hc=>by
  rcases st.ln b hb with h | h
  ·exact hn1 b hc h
  ·have:=hlt2 b hc;omega
 refine⟨⟨hs'.g,fun it hit=>?_,?_,fun b hb'=>?_,fun b hb'=>?_⟩,?_⟩
 ·rcases List.mem_append.1 hit with h | h
  ·exact hs'.l it h
  ·exact Item.ok_of (hs.l it (by simp[h])) (fun b hb'=>hkeep b (.inl (List.mem_filterMap.2 ⟨it,h,hb'⟩))) (hb it h)
 ·rw[eD,hd2,List.append_assoc];refine List.nodup_append.2 ⟨hs'.nd',List.nodup_append.2 ⟨hndL'.2.1,hnd0.2.1,fun b hb c hc=>hnd0.2.2 b (by rw[eD];simp[hb]) c hc⟩,fun b hb c hc he=>?_⟩;subst he;exact hsep b hb (List.mem_append.1 hc)
 ·rw[eD,hd2,List.append_assoc]at hb';rcases List.mem_append.1 hb' with hb' | hb'
  ·exact hs'.df b (by rw[append_nil];exact hb')
  ·have hb2:=List.mem_append.1 hb';have h0:G b=none:=hs.df b (by rw[eD,List.append_assoc];exact List.mem_append_right _ hb');cases hg:G' b with
   | none=>exact hg
   | some o =>
    rcases st.gn b h0 (by show G' b≠none;rw[hg];simp)with h | h
    ·have:=hlt2 b hb2;omega
    ·exact absurd h (hn1 b hb2)
 ·rw[hkeep b (.inr hb')];exact hs.d b hb'
 ·refine⟨st.os,st.tape,st.output,st.size,fun b hb hn=>st.old b hb (fun hm=>hn (by rw[eD];simp[hm])),st.gm,fun b h0 h1=>?_,fun b hb'=>?_,[],rfl,by simp⟩
  ·rcases st.gn b h0 h1 with h | h
   ·exact .inl h
   ·exact .inr (by rw[eD];simp only[List.mem_append];exact .inl h)
  ·rw[eD]at hb' ⊢;rcases List.mem_append.1 hb' with hb' | hb'
   ·rcases st.ln b hb' with h | h
    ·exact .inl (List.mem_append_left _ h)
    ·exact .inr h
   ·exact .inl (List.mem_append_right _ (by rw[← hd2];exact hb'))
theorem rU{l:Nat}{o:Obj}(o':Obj)(hs:Sat β ⟨G,L++[.obj l o],D⟩ w):
  Sat β ⟨G,L++[.obj l o'],D⟩ (w.putObj l o')∧Step β ⟨G,L++[.obj l o],D⟩ w β ⟨G,L++[.obj l o'],D⟩ (w.putObj l o'):=by
 have h0:w.heap[l]?=some o:=hs.l (.obj l o) (by simp);refine kM hs rfl rfl rfl (by simp) (fun b _ hb=>World.putObj_heap_other (fun he=>hb (by simp[Item.block,he]))) ?_ (fun b hb=>.inl hb);exact World.putObj_heap_same (Array.getElem?_eq_some_iff.1 h0).1
theorem vJ(hs:Sat β ⟨G,L,D⟩ w):Sat β ⟨G,L,w.heap.size :: D⟩ (w.alloc (.deferred (some [])))∧Step β ⟨G,L,D⟩ w β ⟨G,L,w.heap.size :: D⟩ (w.alloc (.deferred (some []))):=by
 have hold:∀ b,b < w.heap.size→(w.alloc (.deferred (some []))).heap[b]?=w.heap[b]?:=fun b hb=>heap_alloc_old w _ hb
 refine⟨⟨fun b o ho=>by rw[hold b (hs.g_lt ho)];exact hs.g b o ho,fun it hit=>Item.ok_of (hs.l it hit) (fun b hb=>hold b (Item.ok_lt (hs.l it hit) hb)) rfl,?_,fun b hb=>?_,fun b hb=>?_⟩,
  rfl,rfl,rfl,by simp,fun b hb _=>hold b hb,KO,fun _ h h'=>absurd h h',fun _ h=>.inl h,[w.heap.size],rfl,by simp⟩
 ·have hnd:=List.nodup_append.1 hs.nd;refine List.nodup_append.2 ⟨hnd.1,List.nodup_cons.2 ⟨fun hm=>?_,hnd.2.1⟩,fun b hb c hc he=>?_⟩
  ·have:=hs.d_lt hm;omega
  ·subst he;rcases List.mem_cons.1 hc with h | h
   ·have:=hs.dom_lt (h:=⟨G,L,D⟩) hb;omega
   ·exact hnd.2.2 b hb b h rfl
 ·rcases List.mem_append.1 hb with h | h
  ·exact hs.df b (List.mem_append_left _ h)
  ·rcases List.mem_cons.1 h with rfl | h
   ·cases hg:G w.heap.size with
    | none=>exact hg
    | some o=>have:=hs.g_lt hg;omega
   ·exact hs.df b (List.mem_append_right _ h)
 ·rcases List.mem_cons.1 hb with rfl | h
  ·exact heap_alloc_new w _
  ·rw[hold b (hs.d_lt h)];exact hs.d b h
end
theorem jo.mono{P l args h}{R R':Value→H→Prop}(hc:jo P l args h R)(hr:∀ v h',R v h'→R' v h'):jo P l args h R':=fun β w hs=>by
 obtain⟨f,t,a,b,h1,h2⟩:=hc β w hs;exact⟨f,t,a,b,h1,h2.mono fun _ _ ⟨v,h',c,d,e,f,g⟩=>⟨v,h',c,d,e,f,hr _ _ g⟩⟩
theorem jo.ghost{P l args h h'}{R:Value→H→Prop}(hg:jf h h')(hc:jo P l args h' R):jo P l args h R:=fun β w hs=>by
 obtain⟨s1,t1,d1,r1⟩:=hg β w hs;obtain⟨f,t,a,b,h1,h2⟩:=hc β w s1;exact⟨f,t,a,b,h1,h2.mono fun _ _ ⟨v,h2,c,⟨d,d'⟩,e,f,g⟩=>⟨v,h2,c,⟨d.trans d1,r1.trans d'⟩,e,t1.trans f,g⟩⟩
theorem jo.gx{P l args h}{R R':Value→H→Prop}(hc:jo P l args h R)(hr:∀ v h',R v h'→fc h' (R' v)):jo P l args h R':=fun β w hs=>by
 obtain⟨f,t,a,b,h1,h2⟩:=hc β w hs;refine⟨f,t,a,b,h1,h2.mono fun _ _ ⟨v,h',c,⟨d,d'⟩,e,f,g⟩=>?_⟩;obtain⟨h3,a3,s3,t3,d3,r3⟩:=hr _ _ g β _ e;exact⟨v,h3,c,⟨d3.trans d,d'.trans r3⟩,s3,f.trans t3,a3⟩
def Yields{α:Type}(P:Program)(l:Nat)(E:(Ks)→α→Array Value→Prop)(xs:List α)(I Ix:Nat→(Ks)→Kw→Prop)(G0:Ks):Prop :=
 ∀ i x args G L,xs[i]?=some x→Gle G0 G→E G x args→I i G L→∀ L2 D2,jo P l args ⟨G,L++L2,D2⟩ fun v h' =>
  ∃ G' L',h'=⟨G',L'++L2,D2⟩∧Gle G G'∧eC L'∧((v=.bool true∧I (i+1) G' L')∨(v=.bool false∧Ix i G' L'))
def kZ{α:Type}(P:Program)(gf:Nat)(cap:Array Value)(xs:List α)(E:(Ks)→α→Array Value→Prop)(G0:Ks):Prop :=
 ∀ l (I Ix:Nat→(Ks)→Kw→Prop) G L,Gle G0 G→eC L→(∀ i G L,I i G L→eC L)→(∀ i G L,Ix i G L→eC L)→(∀ i G G' L,Gle G G'→I i G L→I i G' L)→I 0 G L→Yields P l E xs I Ix G →
  ∀ L2 D,eS P gf (#[.func (.yield l) #[] #[]]++cap) ⟨G,L++L2,D⟩ fun _ h'=>∃ G' L',h'=⟨G',L'++L2,D⟩∧Gle G G'∧eC L'∧(I xs.length G' L'∨∃ i,i < xs.length∧Ix i G' L')
def BX{α:Type}(P:Program)(gf:Nat)(cap:Array Value)(xs:List α)(E:(Ks)→α→Array Value→Prop)(G0:Ks)(C0:Kw)(CE:Kw→Prop):Prop :=
 ∀ l (I Ix:Nat→(Ks)→Kw→Prop) G L,Gle G0 G→eC L→(∀ i G L,I i G L→eC L)→(∀ i G L,Ix i G L→eC L)→(∀ i G G' L,Gle G G'→I i G L→I i G' L)→I 0 G L→Yields P l E xs I Ix G →
  ∀ L2 D,eS P gf (#[.func (.yield l) #[] #[]]++cap) ⟨G,L++(C0++L2),D⟩ fun _ h'=>∃ G' L' C',h'=⟨G',L'++(C'++L2),D⟩∧CE C'∧eC C'∧Gle G G'∧eC L'∧(I xs.length G' L'∨∃ i,i < xs.length∧Ix i G' L')
theorem kZ.c{α:Type}{P gf cap}{xs:List α}{E G0}(h:kZ P gf cap xs E G0):BX P gf cap xs E G0 [] (· = []) :=
 fun l I Ix G L h1 h2 h3 h4 h5 h6 h7 L2 D=>(h l I Ix G L h1 h2 h3 h4 h5 h6 h7 L2 D).mono fun _ _ ⟨G',L',e,a,b,c⟩=>⟨G',L',[],e,rfl,dS,a,b,c⟩
theorem kZ.le{α:Type}{P gf cap}{xs:List α}{E G0 G1}(h:kZ P gf cap xs E G0)(hg:Gle G0 G1):kZ P gf cap xs E G1 :=
 fun l I Ix G L h1 h2 h3 h4 h5 h6 h7=>h l I Ix G L (hg.trans h1) h2 h3 h4 h5 h6 h7
def nt:Env→KF→Kt→Env
 | e,p :: ps,v :: vs=>nt (e.set p v) ps vs
 | e,_,_=>e
def exC:Exit→Option Code
 | .ret=>some .ret
 | .exit id=>some (.exit id)
 | _=>none
def Br(J:(Ks)→Kw→Prop)(Jx:Exit→(Ks)→Kw→Prop):Exit→KH
 | .normal,_,h=>∃ h',jf ⟨h.G,h.L,[]⟩ h'∧eC h'.L∧J h'.G h'.L
 | .ret,_,h=>∃ h',jf ⟨h.G,h.L,[]⟩ h'∧eC h'.L∧Jx .ret h'.G h'.L
 | .exit id,_,h=>∃ h',jf ⟨h.G,h.L,[]⟩ h'∧eC h'.L∧Jx (.exit id) h'.G h'.L
 | _,_,_=>False
def Fo(K:KH):Exit→KH
 | .normal,e,h=>K e ⟨h.G,h.L,[]⟩
 | _,_,_=>False
theorem qH{N:Nat}{vs:KF}:∀ (ps:KF) (args:Kt) (t:Array Value) (e:Env),args.length=ps.length→(∀ p∈ps,p < N∧vs.contains p=false) →
  (t.size=N∧∀ i,i < N→i∉vs→t.getD i undef=e i) →
  (((ps.zip args).foldl (fun(t:Array Value) (p:Nat × Value)=>t.setIfInBounds p.1 p.2) t).size=N∧∀ i,i < N→i∉vs→((ps.zip args).foldl (fun(t:Array Value) (p:Nat × Value)=>t.setIfInBounds p.1 p.2) t).getD i undef=nt e ps args i)
 | [],[],t,e,_,_,h=>h
 | p :: ps,v :: as,t,e,hl,hp,h=>by
  simp only[List.zip_cons_cons,List.foldl_cons,nt];refine qH ps as _ _ (by simpa using hl) (fun q hq=>hp q (.tail _ hq)) ⟨by simp[h.1],fun i hi hv=>?_⟩;have h1:=h.2 i hi hv;by_cases hip:i=p
  ·subst hip;simp[Env.set,Array.getD_eq_getD_getElem?,h.1,hi]
  ·have hpi:¬ p=i:=fun e=>hip e.symm
   simp only[Env.set,hip,if_false,← h1,Array.getD_eq_getD_getElem?];rw[Array.getElem?_setIfInBounds_ne hpi]
 | [],_ :: _,_,_,hl,_,_=>by simp at hl
 | _ :: _,[],_,_,hl,_,_=>by simp at hl
section rules
variable {P:Program} {N:Nat} {rs vs:KF} {Q:Exit→KH} {e:Env} {h:H}
theorem Bt{α:Type}{g:O}{ps:KF}{x y:SC}{gf:Nat}{cap:Array Value}{E:(Ks)→α→Array Value→Prop}{xs:List α}{G0:Ks}{L0 C0:Kw}{D0:KF}{CE:Kw→Prop}(I:Nat→(Ks)→Kw→Prop)(Ix:Exit→Nat→(Ks)→Kw→Prop)
  (hh:h=⟨G0,L0++C0,D0⟩) (hg:ev e g=.func (.func gf) #[] cap) (hEn:iy P gf) (hL:eC L0) (hmo:∀ i G G' L,Gle G G'→I i G L→I i G' L) (hit:BX P gf cap xs E G0 C0 CE) (hps:∀ G x args,E G x args→args.size=ps.length) (h0:I 0 G0 L0)
  (round:∀ l i z args G L,xs[i]?=some z→Gle G0 G→E G z args→I i G L→eC L →
   wK (some l) P N rs vs x (Fo fun e1 h1=>wK (some l) P N rs vs y (Br (I (i+1)) (fun ex=>Ix ex i)) e1 h1) (nt e ps args.toList) ⟨G,L,[]⟩)
  (done:∀ G L C d,Gle G0 G→I xs.length G L→eC L→CE C→Q .normal e ⟨G,L++C,d :: D0⟩)
  (stop:∀ ex i G L C d,i < xs.length→Gle G0 G→Ix ex i G L→eC L→CE C→Q ex e ⟨G,L++C,d :: D0⟩):wK none P N rs vs (.rf g ps x y) Q e h:=by
 subst hh;intro c hs;obtain⟨cg,cps,cx,cy,rfl,hcg,rfl,hpar,hcx,hcy⟩:=fp hs;intro β a w hr hw;refine wpIn_rangeFunc ?_;intro fn hfn;obtain⟨rec,hrec⟩:∃ rec:LoopState→Option Code→Loop,rec=fun st pe=>{ state:=st,pending:=pe,fn,tmps:=a.tmps,params:=cps,assign:=cx,body:=cy,defers:=w.heap.size }:=⟨_,rfl⟩
 obtain⟨l,hl⟩:∃ l,l=w.heap.size+1:=⟨_,rfl⟩;obtain⟨W1,hW1⟩:∃ W1,(w.alloc (.deferred (some []))).alloc (.loop (rec .ready none))=W1:=⟨_,rfl⟩;obtain⟨sd,td⟩:=vJ hw;have hsat1:Sat β ⟨G0,(L0++[.obj l (.loop (rec .ready none))])++C0,w.heap.size :: D0⟩ W1∧Step β ⟨G0,L0++C0,D0⟩ w β ⟨G0,(L0++[.obj l (.loop (rec .ready none))])++C0,w.heap.size :: D0⟩ W1:=by
  obtain⟨s1,t1⟩:=lj (it:=.obj l (.loop (rec .ready none))) (w':=W1) sd (by rw[← hW1];rfl) (by rw[← hW1];rfl) (by rw[← hW1];rfl) (by rw[← hW1];simp) (fun b hb=>by rw[← hW1];exact heap_alloc_old _ _ hb)
   (by show W1.heap[l]?=_;rw[hl,← hW1];have:=heap_alloc_new (w.alloc (.deferred (some []))) (.loop (rec .ready none));rwa [World.size_alloc]at this) (fun b hb=>by simp[Item.block]at hb;rw[World.size_alloc];omega)
  have hpm:(Item.obj l (Obj.loop (rec .ready none)) :: (L0++C0)).Perm ((L0++[Item.obj l (Obj.loop (rec .ready none))])++C0):=(List.perm_append_comm (l₁:=[Item.obj l (Obj.loop (rec .ready none))]) (l₂:=L0)).append_right C0;obtain⟨s2,t2⟩:=pZ s1 hpm;exact⟨s2,(td.trans t1).trans t2⟩
 have heg:a.eval cg=.func (.func gf) #[] cap:=by rw[eM hr hcg,hg]
 refine⟨l,[{ target:=.collected w.heap.size,args:=#[] }],W1,{ target:=.fn (.func gf) cap,args:=#[.func (.yield l) #[] #[]] },W1,gf,
  #[.func (.yield l) #[] #[]]++cap,W1,?_,?_,?_,?_,?_,?_⟩
 ·rw[← hW1,hrec,hl];exact run_enterLoop_outer _ _ _ _ _
 ·simp only[resolve,heg];simp[go_sem]
 ·intro f' _;trivial
 ·simp[invoke,go_sem,hEn _ _]
 ·intro h;cases h
 ·refine pc ?_;have hcall:=hit l (fun i G L=>∃ L1,L=L1++[.obj l (.loop (rec .ready none))]∧I i G L1∧eC L1) (fun i G L=>∃ ex c L1,L=L1++[.obj l (.loop (rec .done (some c)))]∧exC ex=some c∧Ix ex i G L1∧eC L1)
   G0 (L0++[.obj l (.loop (rec .ready none))]) (.refl _) (fun s cs hm=>by
    rcases List.mem_append.1 hm with h | h
    ·exact hL s cs h
    ·simp at h) (fun i G L ⟨L1,h1,_,h3⟩ s cs hm=>by
    subst h1
    rcases List.mem_append.1 hm with h | h
    ·exact h3 s cs h
    ·simp at h) (fun i G L ⟨_,_,L1,h1,_,_,h3⟩ s cs hm=>by
    subst h1
    rcases List.mem_append.1 hm with h | h
    ·exact h3 s cs h
    ·simp at h) (fun i G G' L hg ⟨L1,h1,h2,h3⟩=>⟨L1,h1,hmo i G G' L1 hg h2,h3⟩) ⟨L0,rfl,h0,hL⟩ ?_ [] (w.heap.size :: D0)
  ·rw[append_nil]at hcall;refine(hcall.2 β W1 hsat1.1).mono ?_;rintro x w3 ⟨v,h',rfl,_,s3,t3,G',L',C',rfl,hCE,hnC,hgg,_,hend⟩;rw[append_nil]at s3 t3;have hnA:∀ L1,eC L1→eC (L1++C'):=fun L1 hn s cs hm=>(List.mem_append.1 hm).elim (hn s cs) (hnC s cs)
   have hrel:∀ L1,eC L1→Rel none N rs vs β { a with defers:=[{ target:=.collected w.heap.size,args:=#[] }]++a.defers } e ⟨G',L1,w.heap.size :: D0⟩:=fun L1 hn=>by
    refine⟨hr.size,hr.env,fun s cs hm=>absurd hm (hn s cs),?_⟩;have:=hr.dfr;simp at this ⊢;rw[this]
   have fin:∀ r L1,Sat β ⟨G',(L1++[.obj l (.loop r)])++C',w.heap.size :: D0⟩ w3→Step β ⟨G0,(L0++[.obj l (.loop (rec .ready none))])++C0,w.heap.size :: D0⟩ W1 β ⟨G',(L1++[.obj l (.loop r)])++C',w.heap.size :: D0⟩ w3→∀ o,Sat β ⟨G',L1++C',w.heap.size :: D0⟩ (w3.putObj l o)∧Step β ⟨G0,L0++C0,D0⟩ w β ⟨G',L1++C',w.heap.size :: D0⟩ (w3.putObj l o):=fun r L1 s t o=>by
    obtain⟨s3,t3⟩:=pZ s (L':=(L1++C')++[.obj l (.loop r)]) (by rw[List.append_assoc,List.append_assoc];exact List.Perm.append_left L1 List.perm_append_comm);obtain⟨s4,t4⟩:=rU o s3;obtain⟨s5,t5⟩:=xG s4 (List.sublist_append_left (L1++C') _);exact⟨s5,(((hsat1.2.trans t).trans t3).trans t4).trans t5⟩
   rcases hend with⟨L1,rfl,hI,hn⟩ | ⟨i,hi,ex,c,L1,rfl,hc,hI,hn⟩
   ·have hob:w3.heap[l]?=some (.loop (rec .ready none)):=s3.l (.obj l _) (by simp);refine⟨_,_,run_endLoop hob (by rw[hrec];simp),?_⟩;have hp:(rec .ready none).pending=none:=by rw[hrec]
    rw[hp];exact⟨β,e,_,hrel _ (hnA L1 hn),(fin _ L1 s3 t3 _).1,(fin _ L1 s3 t3 _).2,done _ _ _ _ hgg hI hn hCE⟩
   ·have hob:w3.heap[l]?=some (.loop (rec .done (some c))):=s3.l (.obj l _) (by simp);refine⟨_,_,run_endLoop hob (by rw[hrec];simp),?_⟩;have hp:(rec .done (some c)).pending=some c:=by rw[hrec]
    rw[hp];have hq:=stop ex i _ _ _ w.heap.size hi hgg hI hn hCE;cases ex <;> simp only[exC,Option.some.injEq,reduceCtorEq]at hc <;> subst hc
    ·exact wpIn_exit ⟨β,e,_,hrel _ (hnA L1 hn),(fin _ L1 s3 t3 _).1,(fin _ L1 s3 t3 _).2,hq⟩
    ·exact wpIn_ret ⟨β,e,_,hrel _ (hnA L1 hn),(fin _ L1 s3 t3 _).1,(fin _ L1 s3 t3 _).2,hq⟩
  ·rintro i z args G L hz hgl hE ⟨L1,rfl,hI,hn⟩ L2 D2 β1 w1 hw1;have hobj:w1.heap[l]?=some (.loop (rec .ready none)):=hw1.l (.obj l _) (by simp);have hsz:=hps _ _ _ hE;have hy:=run_yield (P:=P) (args:=args) hobj (by rw[hrec];simpa using hsz);rw[hrec]at hy;dsimp only at hy;have hps0:∀ p∈cps.toList,p < N∧vs.contains p=false:=fun p hp=>by
    have:=Array.all_eq_true_iff_forall_mem.1 hpar p (by simpa using hp);simpa using this
   have hfold:(cps.zip args).foldl (fun(tmps:Array Value) (x:Nat × Value)=>tmps.setIfInBounds x.1 x.2) a.tmps=(cps.toList.zip args.toList).foldl (fun(t:Array Value) (p:Nat × Value)=>t.setIfInBounds p.1 p.2) a.tmps:=by
    rw[← Array.foldl_toList,Array.toList_zip]
   have hr0:=qH (N:=N) (vs:=vs) cps.toList args.toList a.tmps e (by simpa using hsz) hps0 ⟨hr.size,hr.env⟩;rw[← hfold]at hr0;have hrel0:Rel (some l) N rs vs β1 { tmps:=(cps.zip args).foldl (fun(tmps:Array Value) (x:Nat × Value)=>tmps.setIfInBounds x.1 x.2) a.tmps,defers:=[] } (nt e cps.toList args.toList) ⟨G,L1,[]⟩ :=
    ⟨hr0.1,hr0.2,fun s cs hm=>absurd hm (hn s cs),rfl⟩
   have hs0:Sat β1 ⟨G,L1++[.obj l (.loop (rec .ready none))],[]⟩ w1:=CU (kE hw1 (.refl _) (List.sublist_append_left _ _));have hs0':Sat β1 ⟨G,L1,[]⟩ w1:=kE hs0 (.refl _) (List.sublist_append_left _ _);refine⟨fn,_,cx,cy,hy,roundIn_of_wpIn hfn ?_⟩;refine wpIn_mono (round l i z args G L1 hz hgl hE hI hn cx hcx β1 _ w1 hrel0 hs0') ?_;rintro ex a1 w2 ⟨β2,e2,⟨G2,L2',D2'⟩,r2,s2,st2,q2⟩;cases ex with
   | normal =>
    have hq2:wK (some l) P N rs vs y (Br (I (i+1)) (fun ex=>Ix ex i)) e2 ⟨G2,L2',[]⟩:=q2;obtain⟨f1,f2⟩:=frame hs0 (CU s2) (BN st2) (by simp[Item.block]);have hobj2:w2.heap[l]?=some (.loop (rec .ready none)):=f1.l (.obj l _) (by simp);obtain⟨b1,b2⟩:=rU (.loop { rec .ready none with state:=.busy }) f1
    have r2':Rel (some l) N rs vs β2 a1 e2 ⟨G2,L2',[]⟩:=⟨r2.size,r2.env,r2.reg,by have:=r2.dfr;simpa using this⟩;refine⟨_,run_beginRound hobj2 (by rw[hrec]),wpIn_mono (hq2 cy hcy β2 a1 _ r2' (kE b1 (.refl _) (List.sublist_append_left _ _))) ?_⟩;rintro ex a3 w3 ⟨β3,e3,⟨G3,L3,D3⟩,r3,s3,st3,q3⟩
    have fin:∀ (jump:Option Code) (J:(Ks)→Kw→Prop) (R:Value→H→Prop),(∃ h',jf ⟨G3,L3,[]⟩ h'∧eC h'.L∧J h'.G h'.L) →
      (∀ G' L',Gle G G'→eC L'→J G' L'→R (.bool jump.isNone) ⟨G',(L'++[.obj l (.loop { rec (if jump.isNone then .ready else .done) jump with state:=if jump.isNone then .ready else .done,pending:=jump })])++L2,D2⟩) →
      ∃ v w',(Instr.endRound l jump).run P w3=.ok v w'∧∃ v' h',Ending.returned v=.returned v'∧(h'.D=D2∧il h' ⟨G,(L1++[.obj l (.loop (rec .ready none))])++L2,D2⟩)∧Sat β1 h' w'∧Step β1 ⟨G,(L1++[.obj l (.loop (rec .ready none))])++L2,D2⟩ w1 β1 h' w'∧R v' h':=by
     rintro jump J R ⟨⟨G4,L4,D4⟩,hgh,hn4,hJ⟩ hR;obtain⟨g1,g2,g3,g4⟩:=hgh β3 w3 (CU s3);dsimp only at g3 hn4 hJ;subst g3;obtain⟨c1,c2⟩:=frame b1 g1 ((BN st3).trans g2) (by simp[Item.block]);have hobj3:w3.heap[l]?=some (.loop { rec .ready none with state:=.busy }):=c1.l (.obj l _) (by simp)
     obtain⟨d1,d2⟩:=rU (.loop { rec .ready none with state:=if jump.isNone then .ready else .done,pending:=jump }) c1;have hn4':eC (L4++[.obj l (.loop { rec .ready none with state:=if jump.isNone then .ready else .done,pending:=jump })]):=fun s cs hm=>by
      rcases List.mem_append.1 hm with h | h
      ·exact hn4 s cs h
      ·simp at h
     have tot:=sB (β2:=β1) hn4' (((f2.trans b2).trans c2).trans d2);obtain⟨z1,z2⟩:=frame hw1 (u5 (β:=β1) hn4' d1) tot (fun _ _=>rfl);have hreq:({ rec .ready none with state:=if jump.isNone then .ready else .done,pending:=jump }:Loop)={ rec (if jump.isNone then .ready else .done) jump with state:=if jump.isNone then .ready else .done,pending:=jump }:=by rw[hrec]
     refine⟨_,_,run_endRound jump hobj3,_,_,rfl,⟨rfl,?_⟩,z1,z2,?_⟩
     ·intro s cs hm;rcases List.mem_append.1 hm with h | h
      ·exact absurd h (hn4' s cs)
      ·exact⟨cs,List.mem_append_right _ h⟩
     ·rw[hreq];exact hR G4 L4 tot.gm hn4 hJ
    have noR:∀ L' r,eC L'→eC (L'++[.obj l (.loop r)]):=fun L' r hn s cs hm=>by
     rcases List.mem_append.1 hm with h | h
     ·exact hn s cs h
     ·simp at h
    cases ex with
    | normal =>
     refine fin none _ _ q3 fun G' L' hg' hn' hJ=>⟨G',_,rfl,hg',noR _ _ hn',.inl ⟨rfl,L',?_,hJ,hn'⟩⟩
     rw[hrec];rfl
    | ret =>
     refine fin (some .ret) _ _ q3 fun G' L' hg' hn' hJ=>⟨G',_,rfl,hg',noR _ _ hn',.inr ⟨rfl,.ret,.ret,L',?_,rfl,hJ,hn'⟩⟩
     rw[hrec];rfl
    | exit id =>
     refine fin (some (.exit id)) _ _ q3 fun G' L' hg' hn' hJ=>⟨G',_,rfl,hg',noR _ _ hn',.inr ⟨rfl,.exit id,.exit id,L',?_,rfl,hJ,hn'⟩⟩
     rw[hrec];rfl
    | goto t=>exact q3.elim
    | panic c=>exact q3.elim
    | outgrown=>exact q3.elim
   | _=>exact q2.elim
theorem Jq{α:Type}{g:O}{ps:KF}{x y:SC}{gf:Nat}{cap:Array Value}{E:(Ks)→α→Array Value→Prop}{xs:List α}(I:Nat→(Ks)→Kw→Prop)(Ix:Exit→Nat→(Ks)→Kw→Prop)
  (hg:ev e g=.func (.func gf) #[] cap) (hEn:iy P gf) (hL:eC h.L) (hmo:∀ i G G' L,Gle G G'→I i G L→I i G' L) (hit:kZ P gf cap xs E h.G) (hps:∀ G x args,E G x args→args.size=ps.length) (h0:I 0 h.G h.L)
  (round:∀ l i z args G L,xs[i]?=some z→Gle h.G G→E G z args→I i G L→eC L →
   wK (some l) P N rs vs x (Fo fun e1 h1=>wK (some l) P N rs vs y (Br (I (i+1)) (fun ex=>Ix ex i)) e1 h1) (nt e ps args.toList) ⟨G,L,[]⟩)
  (done:∀ G L d,Gle h.G G→I xs.length G L→eC L→Q .normal e ⟨G,L,d :: h.D⟩)
  (stop:∀ ex i G L d,i < xs.length→Gle h.G G→Ix ex i G L→eC L→Q ex e ⟨G,L,d :: h.D⟩):wK none P N rs vs (.rf g ps x y) Q e h :=
 Bt (L0:=h.L) (C0:=[]) (CE:=(· = [])) (G0:=h.G) (D0:=h.D) I Ix (by rw[append_nil]) hg hEn hL hmo hit.c hps h0 round
  (fun G L C d h1 h2 h3 h4=>by subst h4;rw[append_nil];exact done G L d h1 h2 h3)
  (fun ex i G L C d h1 h2 h3 h4 h5=>by subst h5;rw[append_nil];exact stop ex i G L d h1 h2 h3 h4)
theorem JE{α:Type}{fr:KA}{g:O}{ps:KF}{x y:SC}{gf:Nat}{cap:Array Value}{E:(Ks)→α→Array Value→Prop}{xs:List α}{G0:Ks}{L0 C0:Kw}{D0:KF}{CE:Kw→Prop}(I:Nat→(Ks)→Kw→Prop)(Ix:Exit→Nat→(Ks)→Kw→Prop)
  (hh:h=⟨G0,L0++C0,D0⟩) (hg:ev e g=.func (.func gf) #[] cap) (hEn:iy P gf) (hL:eC L0) (hmo:∀ i G G' L,Gle G G'→I i G L→I i G' L) (hit:BX P gf cap xs E G0 C0 CE) (hps:∀ G x args,E G x args→args.size=ps.length) (h0:I 0 G0 L0)
  (round:∀ l i z args G L,xs[i]?=some z→Gle G0 G→E G z args→I i G L→eC L →
   go (some l) P N rs vs (Fo fun e1 h1=>go (some l) P N rs vs (Br (I (i+1)) (fun ex=>Ix ex i)) [.s y] e1 h1) [.s x] (nt e ps args.toList) ⟨G,L,[]⟩)
  (done:∀ G L C d,Gle G0 G→I xs.length G L→eC L→CE C→go none P N rs vs Q fr e ⟨G,L++C,d :: D0⟩)
  (stop:∀ ex i G L C d,i < xs.length→Gle G0 G→Ix ex i G L→eC L→CE C→kS none P N rs vs Q fr ex e ⟨G,L++C,d :: D0⟩):go none P N rs vs Q (.s (.rf g ps x y) :: fr) e h :=
 iX (Q:=fun x e h=>match x with | .normal=>go none P N rs vs Q fr e h | x=>kS none P N rs vs Q fr x e h)
  (Bt I Ix hh hg hEn hL hmo hit hps h0 round done (fun ex i G L C d h1 h2 h3 h4 h5=>by
   have:=stop ex i G L C d h1 h2 h3 h4 h5
   cases ex <;> exact this)) fun x e h hq=>by cases x <;> exact hq
theorem sn{α:Type}{fr:KA}{g:O}{ps:KF}{x y:SC}{gf:Nat}{cap:Array Value}{E:(Ks)→α→Array Value→Prop}{xs:List α}(I:Nat→(Ks)→Kw→Prop)(Ix:Exit→Nat→(Ks)→Kw→Prop)
  (hg:ev e g=.func (.func gf) #[] cap) (hEn:iy P gf) (hL:eC h.L) (hmo:∀ i G G' L,Gle G G'→I i G L→I i G' L) (hit:kZ P gf cap xs E h.G) (hps:∀ G x args,E G x args→args.size=ps.length) (h0:I 0 h.G h.L)
  (round:∀ l i z args G L,xs[i]?=some z→Gle h.G G→E G z args→I i G L→eC L →
   go (some l) P N rs vs (Fo fun e1 h1=>go (some l) P N rs vs (Br (I (i+1)) (fun ex=>Ix ex i)) [.s y] e1 h1) [.s x] (nt e ps args.toList) ⟨G,L,[]⟩)
  (done:∀ G L d,Gle h.G G→I xs.length G L→eC L→go none P N rs vs Q fr e ⟨G,L,d :: h.D⟩)
  (stop:∀ ex i G L d,i < xs.length→Gle h.G G→Ix ex i G L→eC L→kS none P N rs vs Q fr ex e ⟨G,L,d :: h.D⟩):go none P N rs vs Q (.s (.rf g ps x y) :: fr) e h :=
 iX (Q:=fun x e h=>match x with | .normal=>go none P N rs vs Q fr e h | x=>kS none P N rs vs Q fr x e h)
  (Jq I Ix hg hEn hL hmo hit hps h0 round done (fun ex i G L d h1 h2 h3 h4=>by
   have:=stop ex i G L d h1 h2 h3 h4
   cases ex <;> exact this)) fun x e h hq=>by cases x <;> exact hq
theorem rS{K:KH}(hk:K e ⟨h.G,h.L,[]⟩):Fo K .normal e h:=hk
theorem rk{J:(Ks)→Kw→Prop}{Jx:Exit→(Ks)→Kw→Prop}(L':Kw)(hs:L'.Sublist h.L)(hn:eC L')(hJ:J h.G L'):Br J Jx .normal e h:=⟨⟨h.G,L',[]⟩,dX hs,hn,hJ⟩
theorem H4{J:(Ks)→Kw→Prop}{Jx:Exit→(Ks)→Kw→Prop}(L':Kw)(hs:L'.Sublist h.L)(hn:eC L')(hJ:Jx .ret h.G L'):Br J Jx .ret e h:=⟨⟨h.G,L',[]⟩,dX hs,hn,hJ⟩
theorem Hs{id:Nat}{J:(Ks)→Kw→Prop}{Jx:Exit→(Ks)→Kw→Prop}(L':Kw)(hs:L'.Sublist h.L)(hn:eC L')(hJ:Jx (.exit id) h.G L'):Br J Jx (.exit id) e h:=⟨⟨h.G,L',[]⟩,dX hs,hn,hJ⟩
end rules
theorem xN(e:Env):nt e [] []=e:=rfl
theorem uo(e:Env)(p:Nat)(ps:KF)(v:Value)(vs:Kt):nt e (p :: ps) (v :: vs)=nt (e.set p v) ps vs:=rfl
attribute [push_cast] xN uo
end Go.Kx
namespace Go.Kx
open Go Go.RowKit
open List (getElem?_eq_getElem mem_of_getElem? length_append append_nil take_length)
theorem eP{G:Ks}{D:KF}{b:Nat}{cs:Kt}(L1 L2:Kw):
  fc ⟨G,L1++.blk b cs :: L2,D⟩ fun h'=>∃ G',h'=⟨G',L1++L2,D⟩∧Gle G G'∧∀ j u,cs[j]?=some u→fB G' (Addr.add ⟨b,0,none⟩ j)=some u :=
 (fc.of (eO List.perm_middle)).trans fun h' e=>by subst e;exact jx
theorem eh{α:Type}{E:α→Kt→Prop}{G:Ks}{D:KF}{v:Value}{et:TypeId}{sz n:Nat}{ys:Kt}{xs:List α}(L1 L2:Kw)(h0:0 < sz)(hc:Cells E sz xs ys):
  fc ⟨G,L1++.row v et sz n ys :: L2,D⟩ fun h'=>∃ G',h'=⟨G',L1++L2,D⟩∧Gle G G'∧SlV G' E sz v xs :=
 (fc.of (eO List.perm_middle)).trans fun h' e=>by subst e;exact kA h0 hc
theorem ek{P:Program}{h:H}{K:KH}{l:Ku}{e:Env}{b o k:Nat}{xs cs:Kt}(L1 L2:Kw)(hL:h.L=L1++.blk b cs :: L2)(ho:o+xs.length≤cs.length)
  (h1:xs.length=k∧xs.all (·.oneCell')=true) (hk:eb P l e { h with L:=L1++.blk b (eo cs o xs) :: L2 } K):stX P (.pointer (some ⟨b,o,none⟩)) xs k l e h K:=by
 refine⟨_,?_,h1,hk⟩;rw[hL];exact .blk L1 ho
theorem Bq{e:Env}{h:H}{s b:Nat}{v:Value}(h1:e s=.pointer (some ⟨b,0,none⟩))(h2:getB b h.L=some [v]):mR e h [.c s none]=some [v]:=by
 simp[mR,h1,vg,h2,ldC]
theorem Bd(b:Nat)(cs:Kt)(L:Kw):getB b (.blk b cs :: L)=some cs:=by simp[getB]
theorem rn{α:Type}{P:Program}{l:Nat}{E:(Ks)→α→Array Value→Prop}{xs:List α}{I Ix:Nat→(Ks)→Kw→Prop}{G0:Ks}(hy:Kx.Yields P l E xs I Ix G0){i:Nat}{x:α}{args:Array Value}{G:Ks}{L:Kw}
  (hx:xs[i]?=some x) (hg:Gle G0 G) (hE:E G x args) (hI:I i G L):jo P l args ⟨G,L,[]⟩ fun v h'=>∃ G' L',h'=⟨G',L',[]⟩∧Gle G G'∧eC L'∧((v=.bool true∧I (i+1) G' L')∨(v=.bool false∧Ix i G' L')):=by
 have:=hy i x args G L hx hg hE hI [] [];simp only[append_nil]at this;exact this
def iv1:Value→Nat
 | .int _ j=>(j+1).toNat
 | _=>0
theorem EY(k:IntKind)(j:Int):iv1 (.int k j)=(j+1).toNat:=rfl
theorem eW(k:Nat)(c:Nat)(hk:k < c)(hm:c≤maxLen):IntKind.i64.wrap ((k:Int)+1)=(k:Int)+1:=by
 unfold maxLen at hm;rw[ei] <;> omega
theorem Hi(i j:Nat)(h:i+j < 18446744073709551616):fq .shr (.int .u64 (IntKind.u64.wrap (IntKind.i64.wrap ((i:Int)+j)))) (.int .u64 1)=some (.int .u64 (((i+j) / 2:Nat):Int)):=by
 have h1:IntKind.u64.wrap (IntKind.i64.wrap ((i:Int)+j))=((i+j:Nat):Int):=by
  rw[IntKind.wrap_i64,IntKind.wrap_u64];omega
 rw[h1];simp[fq,IntKind.bits];rw[Int.fdiv_eq_ediv_of_nonneg _ (by omega)]
theorem cvh(i j:Nat)(h:i+j < 18446744073709551616):IntKind.i64.wrap (((i+j) / 2:Nat):Int)=(((i+j) / 2:Nat):Int):=by
 rw[ei] <;> omega
def ya{α:Type}(E:α→Kt→Prop)(et sz:Nat)(zs:List α)(L':Kw)(r:Value):Prop:=∃ ys,Cells E sz zs ys∧L'=[.row r et sz zs.length ys]
theorem wi{α:Type}{P:Program}{f:FuncId}{args:Array Value}{G:Ks}{E:α→Kt→Prop}{et sz:Nat}{zs:List α}(h0:0 < sz)(hf:FnO P f args G [] (fun _ L' r=>ya E et sz zs L' r)):FnD P f args G (fun G' r=>SlV G' E sz r zs) :=
 FnO.fnD (L1:=[]) hf fun G' L' v ⟨ys,h1,h2⟩ _ L D=>by
  subst h2;exact kA h0 h1
end Go.Kx
namespace Go.Kx
open Go Go.RowKit
open List (getElem?_eq_getElem mem_of_getElem? length_append append_nil take_length)
section
variable {α:Sort _} {x y:α} {a b p q s t u v w:Prop}
theorem sI(hb:b)(h:a=b:=by(first | simp -implicitDefEqProofs only[mg,mf,push_cast,Nat.reduceBEq,Nat.reduceAdd,Nat.reduceSub,Nat.reduceMul,Nat.reduceLT,Nat.reduceLeDiff,Nat.reduceEqDiff,reduceIte,Bool.not_true,Bool.not_false,true_and,and_true,Option.map_some,Option.bind_some,Int.toNat_natCast] | skip);rfl):a:=h.mpr hb
theorem sJ(z:p)(hb:b)(h:p→a=b:=by intro z;(first | simp -implicitDefEqProofs only[mg,mf,push_cast,Nat.reduceBEq,Nat.reduceAdd,Nat.reduceSub,Nat.reduceMul,Nat.reduceLT,Nat.reduceLeDiff,Nat.reduceEqDiff,reduceIte,Bool.not_true,Bool.not_false,true_and,and_true,Option.map_some,Option.bind_some,Int.toNat_natCast,z] | skip);rfl):a:=(h z).mpr hb
theorem sJ2(z:p)(z2:q)(hb:b)(h:p→q→a=b:=by intro z z2;(first | simp -implicitDefEqProofs only[mg,mf,push_cast,Nat.reduceBEq,Nat.reduceAdd,Nat.reduceSub,Nat.reduceMul,Nat.reduceLT,Nat.reduceLeDiff,Nat.reduceEqDiff,reduceIte,Bool.not_true,Bool.not_false,true_and,and_true,Option.map_some,Option.bind_some,Int.toNat_natCast,z,z2] | skip);rfl):a:=(h z z2).mpr hb
theorem sJ3(z:p)(z2:q)(z3:s)(hb:b)(h:p→q→s→a=b:=by intro z z2 z3;(first | simp -implicitDefEqProofs only[mg,mf,push_cast,Nat.reduceBEq,Nat.reduceAdd,Nat.reduceSub,Nat.reduceMul,Nat.reduceLT,Nat.reduceLeDiff,Nat.reduceEqDiff,reduceIte,Bool.not_true,Bool.not_false,true_and,and_true,Option.map_some,Option.bind_some,Int.toNat_natCast,z,z2,z3] | skip);rfl):a:=(h z z2 z3).mpr hb
theorem sJ4(z:p)(z2:q)(z3:s)(z4:t)(hb:b)(h:p→q→s→t→a=b:=by intro z z2 z3 z4;(first | simp -implicitDefEqProofs only[mg,mf,push_cast,Nat.reduceBEq,Nat.reduceAdd,Nat.reduceSub,Nat.reduceMul,Nat.reduceLT,Nat.reduceLeDiff,Nat.reduceEqDiff,reduceIte,Bool.not_true,Bool.not_false,true_and,and_true,Option.map_some,Option.bind_some,Int.toNat_natCast,z,z2,z3,z4] | skip);rfl):a:=(h z z2 z3 z4).mpr hb
theorem sJ5(z:p)(z2:q)(z3:s)(z4:t)(z5:u)(hb:b)(h:p→q→s→t→u→a=b:=by intro z z2 z3 z4 z5;(first | simp -implicitDefEqProofs only[mg,mf,push_cast,Nat.reduceBEq,Nat.reduceAdd,Nat.reduceSub,Nat.reduceMul,Nat.reduceLT,Nat.reduceLeDiff,Nat.reduceEqDiff,reduceIte,Bool.not_true,Bool.not_false,true_and,and_true,Option.map_some,Option.bind_some,Int.toNat_natCast,z,z2,z3,z4,z5] | skip);rfl):a:=(h z z2 z3 z4 z5).mpr hb
theorem sJ6(z:p)(z2:q)(z3:s)(z4:t)(z5:u)(z6:v)(hb:b)(h:p→q→s→t→u→v→a=b:=by intro z z2 z3 z4 z5 z6;(first | simp -implicitDefEqProofs only[mg,mf,push_cast,Nat.reduceBEq,Nat.reduceAdd,Nat.reduceSub,Nat.reduceMul,Nat.reduceLT,Nat.reduceLeDiff,Nat.reduceEqDiff,reduceIte,Bool.not_true,Bool.not_false,true_and,and_true,Option.map_some,Option.bind_some,Int.toNat_natCast,z,z2,z3,z4,z5,z6] | skip);rfl):a:=(h z z2 z3 z4 z5 z6).mpr hb
theorem sJ7(z:p)(z2:q)(z3:s)(z4:t)(z5:u)(z6:v)(z7:w)(hb:b)(h:p→q→s→t→u→v→w→a=b:=by intro z z2 z3 z4 z5 z6 z7;(first | simp -implicitDefEqProofs only[mg,mf,push_cast,Nat.reduceBEq,Nat.reduceAdd,Nat.reduceSub,Nat.reduceMul,Nat.reduceLT,Nat.reduceLeDiff,Nat.reduceEqDiff,reduceIte,Bool.not_true,Bool.not_false,true_and,and_true,Option.map_some,Option.bind_some,Int.toNat_natCast,z,z2,z3,z4,z5,z6,z7] | skip);rfl):a:=(h z z2 z3 z4 z5 z6 z7).mpr hb
theorem eE(h:x=y:=by simp -implicitDefEqProofs only[mg,mf,push_cast,Nat.reduceBEq,Nat.reduceAdd,Nat.reduceSub,Nat.reduceMul,Nat.reduceLT,Nat.reduceLeDiff,Nat.reduceEqDiff,reduceIte,Bool.not_true,Bool.not_false,true_and,and_true,Option.map_some,Option.bind_some,Int.toNat_natCast]):x=y:=h
theorem eJ(z:p)(h:p→x=y:=by intro z;simp -implicitDefEqProofs only[mg,mf,push_cast,Nat.reduceBEq,Nat.reduceAdd,Nat.reduceSub,Nat.reduceMul,Nat.reduceLT,Nat.reduceLeDiff,Nat.reduceEqDiff,reduceIte,Bool.not_true,Bool.not_false,true_and,and_true,Option.map_some,Option.bind_some,Int.toNat_natCast,z]):x=y:=h z
end
class Stp (r:KI) (fr:KA) (fr':outParam (KA)):Prop where
 st:∀ {P:Program} {N:Nat} {rs vs:KF} {Q:Exit→KH} {e:Env} {h:H},go r P N rs vs Q fr' e h→go r P N rs vs Q fr e h
section
variable {r:KI} {fr fr':KA} {x y:SC} {n:Nat}
instance (priority:=10) Iv:Stp r fr fr:=⟨fun h=>h⟩
instance stp_seq [i:Stp r (.s x :: .s y :: fr) fr']:Stp r (.s (.seq x y) :: fr) fr':=⟨fun h=>ed (i.st h)⟩
instance stp_skip [i:Stp r fr fr']:Stp r (.s .skip :: fr) fr':=⟨fun h=>eK (i.st h)⟩
instance stp_lab [i:Stp r fr fr']:Stp r (.s (.lab n) :: fr) fr':=⟨fun h=>EK (i.st h)⟩
instance stp_blk [i:Stp r (.s x :: .b n :: fr) fr']:Stp r (.s (.blk n x) :: fr) fr':=⟨fun h=>tq (i.st h)⟩
instance stp_b [i:Stp r fr fr']:Stp r (.b n :: fr) fr':=⟨fun h=>jg (i.st h)⟩
instance stp_n [i:Stp r fr fr']:Stp r (.n :: fr) fr':=⟨fun h=>JP (i.st h)⟩
instance stp_scp [i:Stp none (.s x :: .n :: fr) fr']:Stp none (.s (.scp x) :: fr) fr':=⟨fun h=>Gy (i.st h)⟩
theorem dT{P:Program}{N:Nat}{rs vs:KF}{Q:Exit→KH}{e:Env}{h:H}[i:Stp r fr fr'](hk:go r P N rs vs Q fr' e h):go r P N rs vs Q fr e h:=i.st hk
variable {P:Program} {N:Nat} {rs vs:KF} {Q:Exit→KH} {e:Env} {h:H}
theorem gr{l:Ku}{fr2:KA}[i:Stp r fr (.s (.reg false l) :: fr2)](lo hi:Nat)(hk:eb P l e h fun e h=>∀ b,go r P N rs vs Q fr2 (mix lo hi e b) h)(hN:N≤99999:=by decide):go r P N rs vs Q fr e h:=i.st (JS lo hi hN hk)
theorem gc{o:O}{x y:SC}{fr2:KA}[i:Stp r fr (.s (.cond o x y) :: fr2)](hk:doB (ev e o) (go r P N rs vs Q (.s x :: fr2) e h) (go r P N rs vs Q (.s y :: fr2) e h)):go r P N rs vs Q fr e h:=i.st (JJ hk)
theorem rV{fr2:KA}{rl:KB}{R:Value→H→Prop}{out:Kt}[i:Stp r fr (.s .ret :: fr2)](hv:R (tt out) ⟨h.G,[],[]⟩)(hr:mR e h rl=some out:=by rfl):go r P N rs vs (fI rl R) fr e h:=i.st (ea (kd hr hv))
theorem gR{l:Ku}{fr2:KA}{p b:Prop}[i:Stp r fr (.s (.reg false l) :: fr2)](lo hi:Nat)(z:p)(hb:b)(hh:p→(eb P l e h fun e h=>∀ b,go r P N rs vs Q fr2 (mix lo hi e b) h)=b:=by intro z;(first | simp -implicitDefEqProofs only[mg,mf,push_cast,Nat.reduceBEq,Nat.reduceAdd,Nat.reduceSub,Nat.reduceMul,Nat.reduceLT,Nat.reduceLeDiff,Nat.reduceEqDiff,reduceIte,Bool.not_true,Bool.not_false,true_and,and_true,Option.map_some,Option.bind_some,Int.toNat_natCast,z] | skip);rfl)(hN:N≤99999:=by decide):go r P N rs vs Q fr e h:=gr lo hi ((hh z).mpr hb) hN
theorem gR2{l:Ku}{fr2:KA}{p q b:Prop}[i:Stp r fr (.s (.reg false l) :: fr2)](lo hi:Nat)(z:p)(z2:q)(hb:b)(hh:p→q→(eb P l e h fun e h=>∀ b,go r P N rs vs Q fr2 (mix lo hi e b) h)=b:=by intro z z2;(first | simp -implicitDefEqProofs only[mg,mf,push_cast,Nat.reduceBEq,Nat.reduceAdd,Nat.reduceSub,Nat.reduceMul,Nat.reduceLT,Nat.reduceLeDiff,Nat.reduceEqDiff,reduceIte,Bool.not_true,Bool.not_false,true_and,and_true,Option.map_some,Option.bind_some,Int.toNat_natCast,z,z2] | skip);rfl)(hN:N≤99999:=by decide):go r P N rs vs Q fr e h:=gr lo hi ((hh z z2).mpr hb) hN
theorem gbD{p A B:Prop}[Decidable p](h1:p→A)(h2:¬ p→B):doB (.bool (decide p)) A B:=gb (fun k=>h1 (KM k)) fun k=>h2 (KN k)
theorem gdD{p:Prop}[Decidable p]{b s c k d l e h K}(h1:p→gdY P (.bool true) b s c k d l e h K)(h2:¬ p→gdY P (.bool false) b s c k d l e h K):gdY P (.bool (decide p)) b s c k d l e h K:=gd (fun k=>h1 (KM k)) fun k=>h2 (KN k)
theorem gxD{p:Prop}[Decidable p]{h1 b t s c d k l e h K}(p1:p→gxX P h1 (.bool true) b t s c d k l e h K)(p2:¬ p→gxX P h1 (.bool false) b t s c d k l e h K):gxX P h1 (.bool (decide p)) b t s c d k l e h K:=gx (fun k=>p1 (KM k)) fun k=>p2 (KN k)
theorem gC{o:O}{x y:SC}{fr2:KA}{b:Prop}[i:Stp r fr (.s (.cond o x y) :: fr2)](hb:b)(hh:doB (ev e o) (go r P N rs vs Q (.s x :: fr2) e h) (go r P N rs vs Q (.s y :: fr2) e h)=b:=by(first | simp -implicitDefEqProofs only[mg,mf,push_cast,Nat.reduceBEq,Nat.reduceAdd,Nat.reduceSub,Nat.reduceMul,Nat.reduceLT,Nat.reduceLeDiff,Nat.reduceEqDiff,reduceIte,Bool.not_true,Bool.not_false,true_and,and_true,Option.map_some,Option.bind_some,Int.toNat_natCast] | skip);rfl):go r P N rs vs Q fr e h:=gc (hh.mpr hb)
theorem rW{fr2:KA}{rl:KB}{R:Value→H→Prop}{out:Kt}{b:Prop}[i:Stp r fr (.s .ret :: fr2)](hb:b)(hr:mR e h rl=some out:=by rfl)(hh:R (tt out) ⟨h.G,[],[]⟩=b:=by(first | simp only[push_cast,Nat.reduceBEq] | skip);rfl):go r P N rs vs (fI rl R) fr e h:=rV (hh.mpr hb) hr
theorem fK{f:FuncId}{args:Array Value}{R:Value→H→Prop}{v:Value}{b:Prop}(hc:eS P f args h fun r h'=>r=v∧h'=h)(hb:b)(hh:R v h=b:=by(first | simp -implicitDefEqProofs only[mg,mf,push_cast,Nat.reduceBEq,Nat.reduceAdd,Nat.reduceSub,Nat.reduceMul,Nat.reduceLT,Nat.reduceLeDiff,Nat.reduceEqDiff,reduceIte,Bool.not_true,Bool.not_false,true_and,and_true,Option.map_some,Option.bind_some,Int.toNat_natCast] | skip);rfl):eS P f args h R:=hc.mono fun _ _ ⟨e1,e2⟩=>by subst e1 e2;exact hh.mpr hb
theorem fJ{f:FuncId}{args:Array Value}{R:Value→H→Prop}{v:Value}{p b:Prop}(hc:eS P f args h fun r h'=>r=v∧h'=h)(z:p)(hb:b)(hh:p→R v h=b:=by intro z;(first | simp -implicitDefEqProofs only[mg,mf,push_cast,Nat.reduceBEq,Nat.reduceAdd,Nat.reduceSub,Nat.reduceMul,Nat.reduceLT,Nat.reduceLeDiff,Nat.reduceEqDiff,reduceIte,Bool.not_true,Bool.not_false,true_and,and_true,Option.map_some,Option.bind_some,Int.toNat_natCast,z] | skip);rfl):eS P f args h R:=hc.mono fun _ _ ⟨e1,e2⟩=>by subst e1 e2;exact(hh z).mpr hb
class Stg (fr:KA) (fr':outParam (KA)):Prop where
 st:∀ {r:KI} {P:Program} {N:Nat} {rs vs:KF} {Q:Exit→KH} {e:Env} {h:H},go r P N rs vs Q fr' e h→go r P N rs vs Q fr e h
instance (priority:=10) stg_0:Stg fr fr:=⟨fun h=>h⟩
instance stg_skip [i:Stg fr fr']:Stg (.s .skip :: fr) fr':=⟨fun h=>eK (i.st h)⟩
instance stg_b [i:Stg fr fr']:Stg (.b n :: fr) fr':=⟨fun h=>jg (i.st h)⟩
theorem gN[i:Stg fr fr'](hk:go r P N rs vs Q fr' e h):go r P N rs vs Q fr e h:=i.st hk
end
theorem Fun.mkA {P : Program} {f : FuncId} {fn : Func} {s : SC} {rl : KB} {V : Kz} {N : Nat} (hf : P.funcs[f]? = some fn) (hN : fn.ntmps = N) (hn : (fn.name == "runtime.NumGoroutine") = false := by kernel_rfl) (hb : fn.body.isNone = false := by kernel_rfl) (hs : gv P fn.ntmps V.1 V.2 (fn.body.getD .skip) = some s := by kernel_rfl) (hr : fF P fn.ntmps V.1 V.2 fn.results.toList = some rl := by kernel_rfl) : Fun P f N V s rl := Fun.mk' hf hN hn hb hs hr
abbrev N_(s:SOp):SI:=⟨none,s,none,0⟩
end Go.Kx

/- Parts of a proof, 1 texts in one file. No condition. -/
import Derived.ProofKit
import Derived.OpenShut
import Derived.ShutString
import Derived.ChangeOld
import Derived.Test.YtpmofpekcbghnaaGreatM1
import Derived.Test.YtpmofpekcbghnaaGreatM2
import Derived.Test.YtpmofpekcbghnaaGreatM3
import Derived.Test.YtpmofpekcbghnaaGreatM4
set_option linter.unusedSimpArgs false
set_option linter.unusedVariables false
namespace Go.Kx
open Go Go.RowKit Go.ChangeShapes Go.WideShapes Go.Deep
open List (getElem?_eq_getElem mem_of_getElem? length_append append_nil take_length)
def ip{α:Type}(P:Program)(W:World)(t:TypeId)(R:α→Kt→Prop):Prop :=
 ∀ (H:Type) (enc:TypeId × Value→H) (fuel:Nat) (cs:Kt) (x:DataW H × List MemPlace),DataW.trod enc P W 0 (fun _=>true) true fuel t cs=some x→∃ a:α,R a cs
section
variable {P:Program} {W:World} {t e:TypeId}
theorem ip.mono{α β:Type}{R:α→Kt→Prop}{S:β→Kt→Prop}(h:ip P W t R)(hs:∀ a cs,R a cs→∃ b,S b cs):ip P W t S:=fun H enc fuel cs x hx=>by
 obtain⟨a,ha⟩:=h H enc fuel cs x hx;exact hs a cs ha
theorem f0{k:IntKind}(ht:P.underlying t=some (.int k)):ip P W t (fun(n:Int) cs=>cs=[.int k n]∧(Lit.int k n).wf=true):=fun H enc fuel cs x hx=>by
 obtain⟨n,h1,_,h2⟩:=DataW.trod_int ht hx;exact⟨n,h1,h2⟩
theorem uJ(ht:P.underlying t=some .bool):ip P W t (fun(b:Bool) cs=>cs=[.bool b]):=fun H enc fuel cs x hx=>by
 obtain⟨b,h1,_⟩:=DataW.trod_bool ht hx;exact⟨b,h1⟩
theorem iW{α:Type}{E:α→Kt→Prop}{sz:Nat}(ht:P.underlying t=some (.slice e))(hC:P.cellsOf e=sz)(hE:ip P W e E):
  ip P W t (fun(l:List α) cs=>∃ A c,cs=[.slice A l.length c]∧l.length≤c∧c≤maxLen∧SlA (pF W) E sz A l):=fun H enc fuel cs x hx=>by
 rcases open_slice ht hx with⟨h0,_⟩ | ⟨a,len,cap,m,n,D,Pl,hcs,hb,hl,hm,hmm,_,hi⟩
 ·exact⟨[],none,0,h0,Nat.le_refl _,Nat.zero_le _,fun i x hx=>by simp at hx⟩
 ·obtain⟨xs,hxl,hA⟩:=Ba (α:=α) (E:=E) (sz:=sz) (G:=pF W) (a:=a) len fun i hlt=>by
   obtain⟨cs',hc,ht'⟩:=hi i (by rw[hmm];simp;omega);rw[hC]at hc;obtain⟨y,hy⟩:=hE H enc n cs' _ ht';obtain⟨_,hcl,hat⟩:=World.cells?_some hc;refine⟨y,cs',hcl,hy,fun j u hu=>?_⟩;have hj:j < sz:=by
    have:=(List.getElem?_eq_some_iff.1 hu).1;omega
   have:=hat j hj;rw[← gy];exact xk (this.trans hu)
  subst hxl;exact⟨xs,some a,cap,hcs,hl,hm,hA⟩
theorem jp{fs:Array Field}(ht:P.underlying t=some (.struct fs))(hone:oneCellFields P fs=true)(hC:P.cellsOf t=fs.size){H:Type}{enc:TypeId × Value→H}{fuel:Nat}{cs:Kt}{x:DataW H × List MemPlace}
  (hx:DataW.trod enc P W 0 (fun _=>true) true fuel t cs=some x):cs.length=fs.size∧∀ (i:Nat) (f:Field),fs[i]?=some f→∃ v n y,cs[i]?=some v∧DataW.trod enc P W 0 (fun _=>true) true n f.type [v]=some y:=by
 obtain⟨ys,n,_,_,hlen,hyl,hf⟩:=DataW.trod_struct ht hx;rw[hC]at hlen;refine⟨hlen,fun i f hi=>?_⟩;obtain⟨ho,hk⟩:=hone_of hone i f hi;have hil:i < fs.size:=(Array.getElem?_eq_some_iff.1 hi).1;have h1:=hf i f hi;rw[ho,hk]at h1;have h2:(cs.drop i).take 1=[cs[i]'(by omega)]:=by
  rw[List.drop_eq_getElem_cons (by omega)];rfl
 rw[h2]at h1;have hys:ys[i]?=some (ys[i]'(by omega)):=getElem?_eq_getElem (by omega);exact⟨_,n,_,getElem?_eq_getElem (by omega),h1.trans hys⟩
theorem ip.at_{α:Type}{R:α→Kt→Prop}{v:Value}{H:Type}{enc:TypeId × Value→H}{fuel:Nat}{x:DataW H × List MemPlace}(h:ip P W t R)(hx:DataW.trod enc P W 0 (fun _=>true) true fuel t [v]=some x):∃ a,R a [v]:=h H enc fuel _ x hx
theorem ip.arg{α:Type}{R:α→Kt→Prop}{H:Type}{enc:TypeId × Value→H}{v:Value}{d:DataW H}{p:List MemPlace}(h:ip P W t R)(hv:DataW.Trod enc P W 0 (fun _=>true) true t v d p):∃ a,R a v.cells.toList:=by
 obtain⟨fuel,hf⟩:=hv;exact h H enc fuel _ _ hf
theorem ip.agg{α:Type}{R:α→Kt→Prop}{H:Type}{enc:TypeId × Value→H}{r:Reach}{b0:Nat}{v:Value}{d:DataW H}{p:List MemPlace}{fs:Array Field}(h:ip P W t R)(ht:P.underlying t=some (.struct fs))(hval:Value.okWide P W r b0 t v)
  (hv:DataW.Trod enc P W 0 (fun _=>true) true t v d p):∃ a cs,v=.agg cs.toArray∧R a cs:=by
 obtain⟨cs,rfl,_⟩:=okWide_struct ht hval;obtain⟨a,ha⟩:=h.arg hv;exact⟨a,cs.toList,by simp,by simpa [Value.cells]using ha⟩
theorem ip.sl{α:Type}{E:α→Kt→Prop}{sz:Nat}{H:Type}{enc:TypeId × Value→H}{r:Reach}{b0:Nat}{v:Value}{d:DataW H}{p:List MemPlace}(h:ip P W t (fun(l:List α) cs=>∃ A c,cs=[.slice A l.length c]∧l.length≤c∧c≤maxLen∧SlA (pF W) E sz A l))
  (ht:P.underlying t=some (.slice e)) (hval:Value.okWide P W r b0 t v) (hv:DataW.Trod enc P W 0 (fun _=>true) true t v d p):∃ l,SlV (pF W) E sz v l:=by
 obtain⟨A0,len,cap,rfl⟩:=okWide_slice ht hval;obtain⟨l,A,c,h1,h2⟩:=h.arg hv;simp[Value.cells]at h1;obtain⟨rfl,rfl,rfl⟩:=h1;exact⟨l,A0,cap,rfl,h2⟩
end
theorem jI{n:Int}(h:(Lit.int .i64 n).wf=true):I64 n:=by
 simp[Lit.wf,IntKind.min,IntKind.max,IntKind.signed,IntKind.bits]at h;exact h
theorem IX{n:Int}(h:(Lit.int .u8 n).wf=true):n=((UInt8.ofNat n.toNat).toNat:Int):=by
 simp[Lit.wf,IntKind.min,IntKind.max,IntKind.signed,IntKind.bits]at h;simp;omega
end Go.Kx

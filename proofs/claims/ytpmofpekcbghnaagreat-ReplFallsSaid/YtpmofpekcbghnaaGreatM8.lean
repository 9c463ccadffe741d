/- Parts of a proof, 1 texts in one file. No condition. -/
import Derived.Test.YtpmofpekcbghnaaGreatM1
import Derived.Test.YtpmofpekcbghnaaGreatM2
import Derived.Test.YtpmofpekcbghnaaGreatM3
import Derived.Test.YtpmofpekcbghnaaGreatM4
import Derived.Test.YtpmofpekcbghnaaGreatM5
import Derived.Test.YtpmofpekcbghnaaGreatM6
import Derived.Test.YtpmofpekcbghnaaGreatM7
set_option linter.unusedSimpArgs false
set_option linter.unusedVariables false
namespace Go.Kx
open Go Go.RowKit
open List (getElem?_eq_getElem mem_of_getElem? length_append append_nil take_length)
def Cv(G:Ks)(L1 L:Kw)(D:KF)(M:(Ks)→Prop):Prop:=fc ⟨G,L1++L,D⟩ fun h'=>∃ G',h'=⟨G',L,D⟩∧Gle G G'∧M G'
theorem ng{G:Ks}{L:Kw}{D:KF}{M:(Ks)→Prop}(h:M G):Cv G [] L D M:=fc.id ⟨G,rfl,.refl G,h⟩
theorem jB{G:Ks}{it:Item}{L1 L:Kw}{D:KF}{M1 M:(Ks)→Prop}(h1:∀ L,fc ⟨G,it :: L,D⟩ fun h'=>∃ G',h'=⟨G',L,D⟩∧Gle G G'∧M1 G')
  (h2:∀ G',Gle G G'→M1 G'→Cv G' L1 L D M):Cv G (it :: L1) L D M :=
 (h1 (L1++L)).trans fun h' ⟨G',e,hg,hm⟩=>by
  subst e;exact(h2 G' hg hm).mono fun h' ⟨G2,e,hg2,hm2⟩=>⟨G2,e,hg.trans hg2,hm2⟩
theorem tM{β β':Nat→Nat}{G G' G2:Ks}{L1 L L':Kw}{D D':KF}{w w':World}(hn:eC L1)(hg:Gle G G')(hw:Sat β ⟨G,L1++L,D⟩ w)(s:Sat β' ⟨G2,L',D'⟩ w')(st:Step β ⟨G',L,D⟩ w β' ⟨G2,L',D'⟩ w'):
  Sat β' ⟨G,L1++L',D'⟩ w'∧Step β ⟨G,L1++L,D⟩ w β' ⟨G,L1++L',D'⟩ w':=by
 have hd1:dom β' L1=dom β L1:=jJ hn;have hnd:=hw.nd;dsimp only at hnd;rw[eD,List.append_assoc]at hnd;obtain⟨n1,n2,n3⟩:=List.nodup_append.1 hnd;have hlt:∀ b∈dom β L1,b < w.heap.size:=fun b hb=>hw.dom_lt (by rw[eD];exact List.mem_append_left _ hb)
 have hold:∀ b∈dom β L1,w'.heap[b]?=w.heap[b]?:=fun b hb=>st.old b (hlt b hb) fun hm=>n3 b hb b (List.mem_append_left _ hm) rfl
 obtain⟨l,hl,hlb⟩:=st.dn;dsimp only at hl;have hnew:∀ b,b∈dom β' L'++D'→b∈dom β L++D∨w.heap.size≤b:=fun b hb=>by
  rcases List.mem_append.1 hb with h | h
  ·rcases st.ln b h with h | h
   ·exact .inl (List.mem_append_left _ h)
   ·exact .inr h
  ·rw[hl]at h;rcases List.mem_append.1 h with h | h
   ·exact .inr (hlb b h)
   ·exact .inl (List.mem_append_right _ h)
 have hgm:Gle G G2:=hg.trans st.gm;refine⟨⟨fun b o h=>s.g b o (hgm b o h),fun it hit=>?_,?_,fun b hb=>?_,s.d⟩,⟨st.os,st.tape,st.output,st.size,fun b hb hn=>st.old b hb fun hm=>hn (by rw[eD];exact List.mem_append_right _ hm),KO,fun _ h h'=>absurd h h',fun b hb=>?_,st.dn⟩⟩
 ·rcases List.mem_append.1 hit with h | h
  ·exact nA (fun s cs he=>hn s cs (he ▸ h)) (Item.ok_of (hw.l it (List.mem_append_left _ h)) (fun b hb=>hold b (List.mem_filterMap.2 ⟨it,h,hb⟩)) rfl)
  ·exact s.l it h
 ·rw[eD,List.append_assoc,hd1];refine List.nodup_append.2 ⟨n1,s.nd,fun b hb c hc he=>?_⟩;subst he;rcases hnew b hc with h | h
  ·exact n3 b hb b h rfl
  ·have:=hlt b hb;omega
 ·rw[eD,List.append_assoc,hd1]at hb;rcases List.mem_append.1 hb with h | h
  ·exact hw.df b (by rw[eD,List.append_assoc];exact List.mem_append_left _ h)
  ·have h0:=s.df b h;cases hgb:G b with
   | none=>exact hgb
   | some o=>have:=hgm b o hgb;dsimp only at h0;rw[h0]at this;cases this
 ·rw[eD]at hb ⊢;rw[hd1]at hb;rcases List.mem_append.1 hb with h | h
  ·exact .inl (List.mem_append_left _ h)
  ·rcases st.ln b h with h | h
   ·exact .inl (List.mem_append_right _ h)
   ·exact .inr h
theorem rQ{P f args}{G:Ks}{L1 L:Kw}{D:KF}{M:(Ks)→Prop}{R:Value→Prop}(hn:eC L1)(hE:iy P f)(hg:Cv G L1 L D M)
  (hf:∀ G',Gle G G'→M G'→eS P f args ⟨G',L,D⟩ fun r h'=>R r∧h'=⟨G',L,D⟩):eS P f args ⟨G,L1++L,D⟩ fun r h'=>R r∧h'=⟨G,L1++L,D⟩ :=
 ⟨hE,fun β w hw=>by
  obtain⟨h',⟨G',rfl,hgg,hm⟩,s1,t1,d1,r1⟩:=hg β w hw
  refine((hf G' hgg hm).2 β w s1).mono ?_
  rintro x w' ⟨r,h2,rfl,⟨b1,b2⟩,s2,t2,hr,rfl⟩
  obtain⟨a1,a2⟩:=tM hn hgg hw s2 t2
  exact⟨r,_,rfl,⟨rfl,.refl _⟩,a1,a2,hr,rfl⟩⟩
theorem jn{P f args}{h:H}{L1 L:Kw}{M:(Ks)→Prop}{R:Value→Prop}(hn:eC L1)(hE:iy P f)(hp:h.L.Perm (L1++L))(hg:Cv h.G L1 L h.D M)
  (hf:∀ G',Gle h.G G'→M G'→eS P f args ⟨G',L,h.D⟩ fun r h'=>R r∧h'=⟨G',L,h.D⟩):eS P f args h fun r h'=>R r∧h'=h:=by
 refine(eS.ghost (h':=⟨h.G,L1++L,h.D⟩) (eO hp) (rQ hn hE hg hf)).gx ?_;rintro r h' ⟨hr,rfl⟩;exact(fc.of (eO hp.symm)).mono fun h' e=>⟨hr,e⟩
section rules
variable {r:KI} {P:Program} {N:Nat} {rs vs:KF} {Q:Exit→KH} {e:Env} {fr:KA}
theorem Di{G:Ks}{L1 L:Kw}{D:KF}{M:(Ks)→Prop}{s:SC}(hn:eC L1)(hg:Cv G L1 L D M)
  (hk:∀ G',Gle G G'→M G'→go r P N rs vs (fun x e h=>∃ G2 L' D',h=⟨G2,L',D'⟩∧kS r P N rs vs Q fr x e ⟨G,L1++L',D'⟩) [.s s] e ⟨G',L,D⟩):go r P N rs vs Q (.s s :: fr) e ⟨G,L1++L,D⟩:=fun c hs β a w hr hw=>by
 obtain⟨h',⟨G',rfl,hgg,hm⟩,s1,t1,d1,r1⟩:=hg β w hw;refine wpIn_mono (hk G' hgg hm c hs β a w ⟨hr.size,hr.env,fun s cs hm=>hr.reg s cs (List.mem_append_right _ hm),hr.dfr⟩ s1) ?_;rintro x a' w' ⟨β',e',h',r',s',st',q⟩;have fin:∀ {K:Exit→KH} {x:Exit},(∃ G2 L' D',h'=⟨G2,L',D'⟩∧K x e' ⟨G,L1++L',D'⟩)→fw r N rs vs β ⟨G,L1++L,D⟩ w K x a' w':=by
  rintro K x ⟨G2,L',D',rfl,qk⟩;obtain⟨a1,a2⟩:=tM hn hgg hw s' st';refine⟨β',e',⟨G,L1++L',D'⟩,⟨r'.size,r'.env,fun s cs hm=>?_,r'.dfr⟩,a1,a2,qk⟩;rcases List.mem_append.1 hm with h | h
  ·exact absurd h (hn s cs)
  ·exact r'.reg s cs h
 cases x <;> exact fin q
end rules
theorem gJ{h:H}{g n c et sz m i k:Nat}{ys cs:Kt}(hm:Item.row (.slice (some ⟨g,0,none⟩) n c) et sz m ys∈h.L)(hk:cs.length=k)(hv:∀ j u,cs[j]?=some u→ys[i+j]?=some u):LdN h (.pointer (some ⟨g,i,none⟩)) (some k) (.agg cs.toArray) :=
 ⟨_,cs,rfl,rfl,hk,fun j u hu=>by rw[eV];exact .row hm (hv j u hu)⟩
end Go.Kx

/- Parts of a proof, 1 texts in one file. No condition. -/
import Derived.Test.YtpmofpekcbghnaaGreatM1
import Derived.Test.YtpmofpekcbghnaaGreatM2
import Derived.Test.YtpmofpekcbghnaaGreatM3
import Derived.Test.YtpmofpekcbghnaaGreatM4
import Derived.Test.YtpmofpekcbghnaaGreatM5
import Derived.Test.YtpmofpekcbghnaaGreatM6
set_option linter.unusedSimpArgs false
set_option linter.unusedVariables false
namespace Go.Kx
open Go Go.RowKit
open List (getElem?_eq_getElem mem_of_getElem? length_append append_nil append_assoc length_cons take_length)
def Cy(G:J5)(L1 L:J9)(D:Kh)(M:(J5)→Prop):Prop:=eD ⟨G,L1++L,D⟩ fun h'=>∃ G',h'=⟨G',L,D⟩∧Gle G G'∧M G'
theorem mD{G:J5}{L:J9}{D:Kh}{M:(J5)→Prop}(h:M G):Cy G [] L D M:=eD.id ⟨G,rfl,.refl G,h⟩
theorem jx{G:J5}{it:Item}{L1 L:J9}{D:Kh}{M1 M:(J5)→Prop}(h1:∀ L,eD ⟨G,it :: L,D⟩ fun h'=>∃ G',h'=⟨G',L,D⟩∧Gle G G'∧M1 G')
  (h2:∀ G',Gle G G'→M1 G'→Cy G' L1 L D M):Cy G (it :: L1) L D M :=
 (h1 (L1++L)).trans fun h' ⟨G',e,hg,hm⟩=>by
  subst e;exact(h2 G' hg hm).mono fun h' ⟨G2,e,hg2,hm2⟩=>⟨G2,e,hg.trans hg2,hm2⟩
theorem sV{β β':Nat→Nat}{G G' G2:J5}{L1 L L':J9}{D D':Kh}{w w':World}(hn:dR L1)(hg:Gle G G')(hw:Sat β ⟨G,L1++L,D⟩ w)(s:Sat β' ⟨G2,L',D'⟩ w')(st:Step β ⟨G',L,D⟩ w β' ⟨G2,L',D'⟩ w'):
  Sat β' ⟨G,L1++L',D'⟩ w'∧Step β ⟨G,L1++L,D⟩ w β' ⟨G,L1++L',D'⟩ w':=by
 have hd1:dom β' L1=dom β L1:=jp hn;have hnd:=hw.nd;dsimp only at hnd;rw[dU,append_assoc]at hnd;obtain⟨n1,n2,n3⟩:=List.nodup_append.1 hnd;have hlt:∀ b∈dom β L1,b < w.heap.size:=fun b hb=>hw.dom_lt (by rw[dU];exact List.mem_append_left _ hb)
 have hold:∀ b∈dom β L1,w'.heap[b]?=w.heap[b]?:=fun b hb=>st.old b (hlt b hb) fun hm=>n3 b hb b (List.mem_append_left _ hm) rfl
 obtain⟨l,hl,hlb⟩:=st.dn;dsimp only at hl;have hnew:∀ b,b∈dom β' L'++D'→b∈dom β L++D∨w.heap.size≤b:=fun b hb=>by
  rcases List.mem_append.1 hb with h | h
  ·rcases st.ln b h with h | h
   ·exact .inl (List.mem_append_left _ h)
   ·exact .inr h
  ·rw[hl]at h;rcases List.mem_append.1 h with h | h
   ·exact .inr (hlb b h)
   ·exact .inl (List.mem_append_right _ h)
 have hgm:Gle G G2:=hg.trans st.gm;refine⟨⟨fun b o h=>s.g b o (hgm b o h),fun it hit=>?_,?_,fun b hb=>?_,s.d⟩,⟨st.os,st.tape,st.output,st.size,fun b hb hn=>st.old b hb fun hm=>hn (by rw[dU];exact List.mem_append_right _ hm),Kp,fun _ h h'=>absurd h h',fun b hb=>?_,st.dn⟩⟩
 ·rcases List.mem_append.1 hit with h | h
  ·exact nn (fun s cs he=>hn s cs (he ▸ h)) (Item.ok_of (hw.l it (List.mem_append_left _ h)) (fun b hb=>hold b (List.mem_filterMap.2 ⟨it,h,hb⟩)) rfl)
  ·exact s.l it h
 ·rw[dU,append_assoc,hd1];refine List.nodup_append.2 ⟨n1,s.nd,fun b hb c hc he=>?_⟩;subst he;rcases hnew b hc with h | h
  ·exact n3 b hb b h rfl
  ·have:=hlt b hb;omega
 ·rw[dU,append_assoc,hd1]at hb;rcases List.mem_append.1 hb with h | h
  ·exact hw.df b (by rw[dU,append_assoc];exact List.mem_append_left _ h)
  ·have h0:=s.df b h;cases hgb:G b with
   | none=>exact hgb
   | some o=>have:=hgm b o hgb;dsimp only at h0;rw[h0]at this;cases this
 ·rw[dU]at hb ⊢;rw[hd1]at hb;rcases List.mem_append.1 hb with h | h
  ·exact .inl (List.mem_append_left _ h)
  ·rcases st.ln b h with h | h
   ·exact .inl (List.mem_append_right _ h)
   ·exact .inr h
theorem r9{P f args}{G:J5}{L1 L:J9}{D:Kh}{M:(J5)→Prop}{R:Value→Prop}(hn:dR L1)(hE:gX P f)(hg:Cy G L1 L D M)
  (hf:∀ G',Gle G G'→M G'→eh P f args ⟨G',L,D⟩ fun r h'=>R r∧h'=⟨G',L,D⟩):eh P f args ⟨G,L1++L,D⟩ fun r h'=>R r∧h'=⟨G,L1++L,D⟩ :=
 ⟨hE,fun β w hw=>by
  obtain⟨h',⟨G',rfl,hgg,hm⟩,s1,t1,d1,r1⟩:=hg β w hw
  refine((hf G' hgg hm).2 β w s1).mono ?_
  rintro x w' ⟨r,h2,rfl,⟨b1,b2⟩,s2,t2,hr,rfl⟩
  obtain⟨a1,a2⟩:=sV hn hgg hw s2 t2
  exact⟨r,_,rfl,⟨rfl,.refl _⟩,a1,a2,hr,rfl⟩⟩
theorem iY{P f args}{h:H}{L1 L:J9}{M:(J5)→Prop}{R:Value→Prop}(hn:dR L1)(hE:gX P f)(hp:h.L.Perm (L1++L))(hg:Cy h.G L1 L h.D M)
  (hf:∀ G',Gle h.G G'→M G'→eh P f args ⟨G',L,h.D⟩ fun r h'=>R r∧h'=⟨G',L,h.D⟩):eh P f args h fun r h'=>R r∧h'=h:=by
 refine(eh.ghost (h':=⟨h.G,L1++L,h.D⟩) (ee hp) (r9 hn hE hg hf)).gx ?_;rintro r h' ⟨hr,rfl⟩;exact(eD.of (ee hp.symm)).mono fun h' e=>⟨hr,e⟩
section rules
variable {r:Kk} {P:Program} {N:Nat} {rs vs:Kh} {Q:Exit→Kj} {e:Env} {fr:Kc}
theorem Cv{G:J5}{L1 L:J9}{D:Kh}{M:(J5)→Prop}{s:SC}(hn:dR L1)(hg:Cy G L1 L D M)
  (hk:∀ G',Gle G G'→M G'→go r P N rs vs (fun x e h=>∃ G2 L' D',h=⟨G2,L',D'⟩∧kS r P N rs vs Q fr x e ⟨G,L1++L',D'⟩) [.s s] e ⟨G',L,D⟩):go r P N rs vs Q (.s s :: fr) e ⟨G,L1++L,D⟩:=fun c hs β a w hr hw=>by
 obtain⟨h',⟨G',rfl,hgg,hm⟩,s1,t1,d1,r1⟩:=hg β w hw;refine wpIn_mono (hk G' hgg hm c hs β a w ⟨hr.size,hr.env,fun s cs hm=>hr.reg s cs (List.mem_append_right _ hm),hr.dfr⟩ s1) ?_;rintro x a' w' ⟨β',e',h',r',s',st',q⟩;have fin:∀ {K:Exit→Kj} {x:Exit},(∃ G2 L' D',h'=⟨G2,L',D'⟩∧K x e' ⟨G,L1++L',D'⟩)→eT r N rs vs β ⟨G,L1++L,D⟩ w K x a' w':=by
  rintro K x ⟨G2,L',D',rfl,qk⟩;obtain⟨a1,a2⟩:=sV hn hgg hw s' st';refine⟨β',e',⟨G,L1++L',D'⟩,⟨r'.size,r'.env,fun s cs hm=>?_,r'.dfr⟩,a1,a2,qk⟩;rcases List.mem_append.1 hm with h | h
  ·exact absurd h (hn s cs)
  ·exact r'.reg s cs h
 cases x <;> exact fin q
end rules
theorem gT{h:H}{g n c et sz m i k:Nat}{ys cs:J6}(hm:Item.row (.slice (some ⟨g,0,none⟩) n c) et sz m ys∈h.L)(hk:cs.length=k)(hv:∀ j u,cs[j]?=some u→ys[i+j]?=some u):LdN h (.pointer (some ⟨g,i,none⟩)) (some k) (.agg cs.toArray) :=
 ⟨_,cs,rfl,rfl,hk,fun j u hu=>by rw[eA];exact .row hm (hv j u hu)⟩
end Go.Kx

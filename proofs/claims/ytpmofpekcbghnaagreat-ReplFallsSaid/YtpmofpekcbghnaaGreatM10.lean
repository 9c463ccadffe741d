/- Parts of a proof, 3 texts in one file. No condition. -/
import Derived.Test.YtpmofpekcbghnaaGreatM1
import Derived.Test.YtpmofpekcbghnaaGreatM2
import Derived.Test.YtpmofpekcbghnaaGreatM3
import Derived.Test.YtpmofpekcbghnaaGreatM4
import Derived.Test.YtpmofpekcbghnaaGreatM5
import Derived.Test.YtpmofpekcbghnaaGreatM6
import Derived.Test.YtpmofpekcbghnaaGreatM7
import Derived.Test.YtpmofpekcbghnaaGreatM8
import Derived.Test.YtpmofpekcbghnaaGreatM9
set_option linter.unusedSimpArgs false
set_option linter.unusedVariables false
namespace Go.Proofs.YtpmofpekcbghnaaGreat
open Go Go.Kx
open List (getElem?_eq_getElem mem_of_getElem? length_append append_nil take_length)
theorem F41:Fun Tryz.prog 41 11 v41 c41 o41:=Fun.mkA Tryz.func41 Tryz.ntmps41
theorem F100:Fun Tryz.prog 100 77 v100 c100 o100:=Fun.mkA Tryz.func100 Tryz.ntmps100
def m7(l:Lg)(es:List Ep)(r:Rp):Rp:=if r.up=true then { r with log:=l,eps:=es,high:=min r.high (fg l) }else r
noncomputable def oQ(p:Pt)(l:Lg)(es:List Ep):Pt:={ p with reps:=p.reps.map (m7 l es) }
noncomputable def vk(l:Lg)(p:Pt):Pt × Int :=
 if p.leader < 0 then(p,180)else
  match (atR p.reps p.leader).bind fun k=>p.reps[k]? with
  | none=>(p,0)
  | some r=>if fS l≠0 then(p,fS l)else if fg l≠fg r.log then(p,1)else(eN (oQ p l r.eps),0)
theorem yG(l:Lg)(es:List Ep)(r:Rp):(m7 l es r).id=r.id:=by
 unfold m7;split <;> rfl
theorem zu(p:Pt)(l:Lg)(es:List Ep):gj (oQ p l es).reps=gj p.reps:=by
 unfold oQ gj;rw[List.map_map];exact List.map_congr_left fun r _=>yG l es r
theorem wc{p:Pt}{l:Lg}{es:List Ep}(hok:okP p)(hsm:smP p)(hl:fS l=0)(he:es.length≤1000):nV (oQ p l es).reps∧(∀ n∈p.isr,n∈gj (oQ p l es).reps)∧∀ r∈(oQ p l es).reps,smW r:=by
 rw[nV,zu];refine⟨⟨(fO hok).1,fun z hz=>?_⟩,hok.2.1.2,fun z hz=>?_⟩
 ·obtain⟨y,hy,rfl⟩:=List.mem_map.1 hz;rw[yG];exact(fO hok).2 y hy
 ·obtain⟨y,hy,rfl⟩:=List.mem_map.1 hz;have h1:=mP hsm.1 y hy;have:=(ib hl).2.2.2;unfold m7;split
  ·exact⟨na hl,by show l.segs.length≤_;omega,by show es.length≤_;omega⟩
  ·exact h1
theorem oH{α:Type}{l:List α}{f:α→α}{k:Nat}{x:α}(h:l[k]?=some x):((l.take k).map f++l.drop k).set k (f x)=(l.take (k+1)).map f++l.drop (k+1):=by
 have h1:=(List.getElem?_eq_some_iff.1 h).1;have h2:((l.take k).map f).length=k:=by simp;omega
 rw[List.set_append_right _ _ (by omega),h2,Nat.sub_self,List.take_add_one,h,List.map_append,List.append_assoc];congr 1;rw[show l.drop k=x :: l.drop (k+1)from by rw[← (List.getElem?_eq_some_iff.1 h).2];exact(List.drop_eq_getElem_cons h1)];rfl
theorem DF(p:Pt)(l:Lg)(bl:Nat)(A0:Ky)(c0:Nat)(G:Ks)(hok:okP p)(hsm:smP p)(hI:ri p)(hl:LE G l (eG l A0 c0))(hf:∀ j u,(eG l A0 c0)[j]?=some u→fB G ⟨bl,j,none⟩=some u):
  Em G 100 #[.pointer (some ⟨bl,0,none⟩)] p (vk l p) [] (· = []):=by
 intro G1 x A c B d ys zs hg hy hz;rw[append_nil];rw[show(#[.pointer (some ⟨x,0,none⟩)]++#[.pointer (some ⟨bl,0,none⟩)]:Array Value)=#[.pointer (some ⟨x,0,none⟩),.pointer (some ⟨bl,0,none⟩)]from rfl];have hl:=hl.le hg;have hf:=fun j u h=>em hg (hf j u h)
 refine F100.fnO (by simp) eU (dY ?_);unfold c100;intros;refine gR 0 0 c100r0.eq_1 ?_;intros;refine dT ?_;intros;refine gR 8 13 c100r1.eq_1 ?_;refine⟨_,dZ (cs:=eB p A c B d) (.head _) rfl,?_⟩;refine sI ?_;intros;refine gC ?_;refine gbD (fun k1=>?_) (fun k1=>?_)
 ·intros;refine gR 0 0 c100r2.eq_1 ?_;intros;refine ea (ee [] rfl KL dS ?_);rw[vk,if_pos k1];exact m9 x _ (by decide)
 obtain⟨k,r,hk,hr,hrid⟩:=lb (l:=p.reps) (n:=p.leader) (by
  rcases hok.2.2 with h | ⟨⟨r,h1,h2,-⟩,-⟩
  ·omega
  ·exact List.mem_map.2 ⟨r,h1,h2⟩)
 have hq:vk l p=if fS l≠0 then(p,fS l)else if fg l≠fg r.log then(p,1)else(eN (oQ p l r.eps),0):=by
  rw[vk,if_neg k1,hk];simp only[Option.bind_some,hr]
 rw[hq];clear hq;have hkl:=(List.getElem?_eq_some_iff.1 hr).1;intros;refine eI (iE (.tail _ (.head _)) (by omega)) ?_;rintro h' ⟨rfl,g,c9,he,hcd,hmd⟩;cases he;have hpt:uN (some ⟨g,0,none⟩) (some k)=some ⟨g,k * 7,none⟩:=congrArg some (gB _ _);obtain⟨cs,hre,hcl,hld⟩:=hz.get hr;have hre0:=hre;obtain⟨A1,c1,B1,d1,rfl,q1,q2,q3,q4⟩:=hre;have hsr:=hsm.1 r (mem_of_getElem? hr);intros;refine gN ?_
 intros;refine gR 14 23 c100r3.eq_1 ?_;refine⟨_,dZ (cs:=eB p A c (some ⟨g,0,none⟩) d) (.head _) rfl,?_⟩;refine sI ?_;refine(qh p x A c (some ⟨g,0,none⟩) d ys zs p.leader _ [] (by simp) hy hz hI.2.1 (fO hok)).mono ?_;rintro _ _ ⟨rfl,rfl⟩;rw[hk,hpt];refine sI ?_;refine⟨_,gJ (.tail _ (.head _)) hcl hld,?_⟩;unfold fk
 have hn4:rmR 4 (PtL p x A c (some ⟨g,0,none⟩) d ys zs)=PtL p x A c (some ⟨g,0,none⟩) d ys zs:=lI eU;refine sJ @hn4 ?_;intros;have hll:∀ (L:Kv) (D:KF),LdN ⟨G1,L,D⟩ (.pointer (some ⟨bl,0,none⟩)) (some 3) (.agg (eG l A0 c0).toArray):=fun L D=>⟨_,_,rfl,rfl,rfl,fun j u hu=>by rw[eV,Nat.zero_add];exact .g (hf j u hu)⟩
 have hck:=jY l _ G1 hl;unfold eG at hll hck;intros;refine gR 23 25 c100r4.eq_1 ?_;refine⟨_,hll _ _,?_⟩;refine sI ?_;refine fK (hck _ _) ?_;intros;refine gR 25 26 c100r5.eq_1 ?_;intros;refine gC ?_;refine gb (fun k2=>?_) (fun k2=>?_)
 ·have k2:=KM k2;intros;refine gR 27 28 c100r6.eq_1 ?_;intros;refine ea (ee [] rfl KL dS ?_);rw[if_pos k2];exact m9 x _ k2
 have k2:fS l=0:=by simpa using k2
 have hml:=(ib k2).2.2.2;have hce:=sP l _ G1 hl (na k2) (by omega);have hpe:=iB r _ G1 hre0 hsr.1 (by have:=hsr.2.1;omega);unfold eG at hce;unfold fk at hpe;rw[if_neg (fun h=>h k2)];intros;refine gN ?_;intros;refine dT ?_;refine lk _ KJ (by decide) ?_;refine sJ c100r7.eq_1 ?_;refine⟨_,hll _ _,?_⟩;refine sI ?_;refine fK (hce _ _) ?_;refine fK (hpe _ _) ?_;intros;refine gC ?_
 refine gb (fun k3=>?_) (fun k3=>?_)
 ·have k3:=KM k3;intros;refine gR 0 0 c100r8.eq_1 ?_;intros;refine ea (ee [] rfl KL dS ?_);rw[if_pos k3];exact m9 x _ (by decide)
 have k3:fg l=fg r.log:=by simpa using k3
 rw[if_neg (fun h=>h k3)];intros;refine gN ?_;intros;refine gR 33 38 c100r9.eq_1 ?_;refine⟨_,dZ (cs:=eB p A c (some ⟨g,0,none⟩) d) (.tail _ (.head _)) rfl,?_⟩;refine sI ?_;intros;generalize hR4:Kx.Item.reg 4 [.int .i64 r.id,.bool r.up,.int .i64 r.log.limit,.int .i64 r.log.start,.slice A1 r.log.segs.length c1,.slice B1 r.eps.length d1,.int .i64 r.high]=R4
 refine eL (fun e h=>∃ zs',Cells (RE G1) 7 (oQ p l r.eps).reps zs'∧e 0=.pointer (some ⟨x,0,none⟩)∧h=⟨G1,R4 :: PtL p x A c (some ⟨g,0,none⟩) d ys zs',[]⟩) ?_ ?_
 ·intros;refine dT ?_;refine ej (fun e h=>∃ (t:Nat) (zs':Kt),(t≤p.reps.length∧Cells (RE G1) 7 ((p.reps.take t).map (m7 l r.eps)++p.reps.drop t) zs')∧e 39=.int .i64 t∧e 38=.int .i64 p.reps.length∧e 0=.pointer (some ⟨x,0,none⟩)∧e 1=.pointer (some ⟨bl,0,none⟩)∧h=⟨G1,R4 :: PtL p x A c (some ⟨g,0,none⟩) d ys zs',[]⟩) (fun e h=>p.reps.length - iv (e 39)) ?_ ?_
  ·exact⟨0,zs,⟨Nat.zero_le _,hz⟩,eE,eE,eE,eE,rfl⟩
  rintro e h ⟨t,zs',⟨ht,hz⟩,e39,e38,e0,e1,rfl⟩;refine dV [0,1,38,39] ?_;refine sJ4 @e0 @e1 @e38 @e39 ?_;intros;refine gR 0 0 c100r10.eq_1 ?_;intros;refine gC ?_;refine gb (fun k4=>?_) (fun k4=>?_)
  ·have k4:t < p.reps.length:=by have:=KM k4;omega
   intros;refine gN ?_;intros;refine gR 41 42 c100r11.eq_1 ?_;intros;refine gR 42 49 c100r12.eq_1 ?_;refine⟨_,dZ (cs:=eB p A c (some ⟨g,0,none⟩) d) (.tail _ (.head _)) rfl,?_⟩;refine sI ?_;obtain⟨y,hy2⟩:∃ y,p.reps[t]?=some y:=⟨p.reps[t],getElem?_eq_getElem k4⟩;have hw:=eW t d (by omega) hmd;have hyt:((p.reps.take t).map (m7 l r.eps)++p.reps.drop t)[t]?=some y:=by
    rw[List.getElem?_append_right (by simp;omega)];simp[show min t p.reps.length=t from by omega,hy2]
   have hstep:=oH (f:=m7 l r.eps) hy2;have hzl:=hz.len;have hml2:((p.reps.take t).map (m7 l r.eps)++p.reps.drop t).length=p.reps.length:=by simp;omega
   obtain⟨cs,hye,hcl2,hld2⟩:=hz.get hyt;obtain⟨A2,c2,B2,d2,rfl,q5,q6,q7,q8⟩:=hye;refine⟨by omega,_,rfl,?_⟩;rw[gB];refine sI ?_;intros;refine gR 49 52 c100r13.eq_1 ?_;refine⟨_,ff (.tail _ (.tail _ (.head _))) (hld2 1 _ rfl),?_⟩;refine sI ?_;intros
   refine eL (fun e h=>∃ zs2,Cells (RE G1) 7 ((p.reps.take (t+1)).map (m7 l r.eps)++p.reps.drop (t+1)) zs2∧e 39=.int .i64 t∧e 38=.int .i64 p.reps.length∧e 0=.pointer (some ⟨x,0,none⟩)∧e 1=.pointer (some ⟨bl,0,none⟩)∧h=⟨G1,R4 :: PtL p x A c (some ⟨g,0,none⟩) d ys zs2,[]⟩) ?_ ?_
   ·intros;refine gC ?_;refine gb (fun k5=>?_) (fun k5=>?_)
    ·have k5:y.up=true:=by simpa using k5
     subst hR4;intros;refine dT ?_;refine qe _ (.cons_cons _ KL) (by decide) ?_;refine sJ c100r14.eq_1 ?_;refine⟨_,hll _ _,?_⟩;refine sI ?_;refine fG [_,_] _ rfl (by simp;omega) ⟨rfl,rfl⟩ ?_;refine sI ?_;refine⟨⟨KO,.cons_cons _ KL,rfl⟩,?_⟩;refine sI ?_;refine fG [_,_] _ rfl (by simp[eo];omega) ⟨rfl,rfl⟩ ?_;refine sI ?_;obtain⟨A0',c0',hle,hls,hli⟩:=hl;cases hle
     have hz1:=Cells.setF (E:=RE G1) (o:=2) (us:=eG l A0 c0) (x':={ y with log:=l }) hz hyt (by simp[eG]) fun cs h hl=>by
      obtain⟨A5,c5,B5,d5,rfl,q1,q2,q3,q4⟩:=h;exact⟨A0,c0,B5,d5,rfl,hls,q2,hli,q4⟩
     unfold eG at hz1;have hr1:=iU (y:={ y with log:=l }) hyt;have hz2:=Cells.setF (E:=RE G1) (o:=5) (us:=[.slice B1 r.eps.length d1]) (x':={ y with log:=l,eps:=r.eps }) hz1 hr1 (by simp) fun cs h hl=>by
      obtain⟨A5,c5,B5,d5,rfl,q1',q2',q3',q4'⟩:=h;exact⟨A5,c5,B1,d1,rfl,q1',q2,q3',q4'⟩
     rw[List.set_set]at hz2;have hr2:=iU (y:={ y with log:=l,eps:=r.eps }) hyt;have hzl2:=hz2.len;rw[List.length_set]at hzl2;clear hz1 hr1;generalize eo (eo zs' (t * 7+2) [.int .i64 l.limit,.int .i64 l.start,.slice A0 l.segs.length c0]) (t * 7+5) [.slice B1 r.eps.length d1]=zs2 at *;have hrep:m7 l r.eps y={ y with log:=l,eps:=r.eps,high:=min y.high (fg l) }:=by rw[m7,if_pos k5]
     obtain⟨cs,hre2,hcl3,hld3⟩:=hz2.get hr2;have hend:=iB _ cs G1 hre2 (na k2) (by show l.segs.length≤_;omega);obtain⟨A5,c5,B5,d5,rfl,-⟩:=hre2;unfold fk at hend;intros;refine dT ?_;refine Aq _ KJ (by decide) ?_;refine sJ c100r15.eq_1 ?_;refine⟨_,ff (.tail _ (.tail _ (.head _))) (hld3 6 _ rfl),?_⟩;refine sI ?_;refine⟨_,gJ (.tail _ (.tail _ (.head _))) hcl3 hld3,?_⟩;unfold fk;refine sI ?_
     refine fK (hend _ _) ?_;refine sJ c100r16.eq_1 ?_;refine fG [_,_] _ rfl (by simp;omega) ⟨rfl,rfl⟩ ?_;refine sI ?_;intros;have hz3:=Cells.setF (E:=RE G1) (o:=6) (us:=[.int .i64 (min y.high (fg l))]) (x':=m7 l r.eps y) hz2 hr2 (by simp) fun cs h hl=>by
      obtain⟨A5,c5,B5,d5,rfl,q1',q2',q3',q4',q5'⟩:=h;have q5':I64 y.high:=q5';have:=kw l;rw[hrep];exact⟨A5,c5,B5,d5,rfl,q1',q2',q3',q4',by unfold I64 at q5' ⊢;show _≤min y.high (fg l)∧min y.high (fg l)≤_;omega⟩
     rw[List.set_set,hstep]at hz3;exact eF ⟨_,hz3,eE,eE,eE,eE,rfl⟩
    ·have hry:m7 l r.eps y=y:=by rw[m7,if_neg (by rw[k5];simp)]
     have hset:((p.reps.take t).map (m7 l r.eps)++p.reps.drop t).set t y=(p.reps.take t).map (m7 l r.eps)++p.reps.drop t:=by
      refine List.ext_getElem? fun i=>?_
      rw[List.getElem?_set];split
      ·rename_i he;subst he;rw[hyt,if_pos (by omega)]
      ·rfl
     rw[hry,hset]at hstep;rw[← hstep];intros;refine gN ?_;exact eF ⟨zs',hz,eE,eE,eE,eE,rfl⟩
   rintro e h ⟨zs2,hz2,e39,e38,e0,e1,rfl⟩;refine dV [0,1,38,39] ?_;refine sJ4 @e0 @e1 @e38 @e39 ?_;intros;refine gR2 74 75 c100r17.eq_1 @hw ?_;intros;refine dT ?_;refine eF ⟨⟨t+1,zs2,⟨by omega,hz2⟩,eE,eE,eE,eE,rfl⟩,?_⟩;refine sI ?_;omega
  ·have k4:t=p.reps.length:=by have:=KN k4;omega
   subst k4;rw[take_length,List.drop_length,append_nil]at hz;refine eg ?_;refine sI ?_;intros;refine gN ?_;exact eF ⟨zs',hz,eE,rfl⟩
 rintro e h ⟨zs',hz',e0,rfl⟩;refine dV [0] ?_;refine sJ @e0 ?_;have hlen:(oQ p l r.eps).reps.length=p.reps.length:=List.length_map ..;have hrp:=wc hok hsm k2 hsr.2.2;have hraise:=kI (oQ p l r.eps) x A c (some ⟨g,0,none⟩) d ys zs' G1 hy hz' hrp.1 hrp.2.1 hrp.2.2 hI;have hpl:PtL (oQ p l r.eps) x A c (some ⟨g,0,none⟩) d ys zs'=PtL p x A c (some ⟨g,0,none⟩) d ys zs':=by
  unfold PtL eB;rw[hlen];rfl
 rw[← hpl];intros;refine dU (dX (L':=PtL (oQ p l r.eps) x A c (some ⟨g,0,none⟩) d ys zs') (.cons _ KJ)) ?_;rw[← append_nil (PtL (oQ p l r.eps) x A c (some ⟨g,0,none⟩) d ys zs')];intros;refine gR 75 77 c100r18.eq_1 ?_;refine(hraise _ _).mono ?_;rintro r' h' ⟨G2,L',rfl,hg2,rfl,zs2,rfl,hz2⟩;rw[append_nil];refine sI ?_;intros;refine gR 0 0 c100r19.eq_1 ?_;intros
 refine ea (ee _ rfl KJ eU (vd ?_ hz2 (kV (p:=oQ p l r.eps) hI)));rw[(gW (oQ p l r.eps)).2.2.2.1];exact hy
theorem Ek(p:Pt)(l:Lg)(cs cl:Kt)(G:Ks)(hp:PE G p cs)(hsm:smP p)(hl:LE G l cl):FnD Tryz.prog 41 #[.agg cs.toArray,.agg cl.toArray] G (PtR (mc p (vk l p))):=by
 have hp0:=hp;have hl0:=hl;obtain⟨A,c,B,d,rfl,-,-,hI⟩:=hp;obtain⟨A0,c0,rfl,-⟩:=hl;refine F41.fnD (by simp) (dY ?_);unfold c41;unfold eB at hp0 ⊢;unfold eG;intros;refine gR 0 0 c41r0.eq_1 ?_;intro b3 hb3;refine sI ?_;intros;refine eI (eP [_] _) ?_;rintro h' ⟨G1,rfl,hg1,f3⟩
 have hch:=oe p _ 100 #[.pointer (some ⟨b3,0,none⟩)] (vk l p) [] (· = []) G1 (hp0.le hg1) hsm dS (fun C h=>by rw[h];exact dS) fun hok =>
  DF p l b3 A0 c0 G1 hok hsm hI (hl0.le hg1) fun j u hu=>by have:=f3 j u hu;rwa [gB]at this
 intros;refine gR 6 11 c41r1.eq_1 ?_;refine(hch _ _).mono ?_;rintro r h' ⟨G3,L3,rfl,hg3,⟨cs3,rfl,hpe⟩,-,hL⟩;have hL:L3=[]:=by
  rcases hL with h | ⟨-,h⟩ <;> exact h
 subst hL;have hpe0:=hpe;obtain⟨A3,c3,B3,d3,rfl,-⟩:=hpe;unfold eB at hpe0 ⊢;refine sI ?_;intros;refine rW ?_;exact⟨_,rfl,hpe0⟩
theorem F42:Fun Tryz.prog 42 72 v42 c42 o42:=Fun.mkA Tryz.func42 Tryz.ntmps42
def qz(p:Pt)(l:Lg)(es:List Ep)(t:Nat):Pt:={ p with reps:=(p.reps.take t).map (m7 l es)++p.reps.drop t }
theorem v6(p:Pt)(l:Lg)(es:List Ep)(t:Nat)(A:Ky)(c:Nat)(B:Ky)(d:Nat)(ht:t≤p.reps.length):eB (qz p l es t) A c B d=eB p A c B d:=by
 have hlt:(qz p l es t).reps.length=p.reps.length:=by unfold qz;simp;omega
 unfold eB;rw[hlt];rfl
theorem IF{p:Pt}{l:Lg}(h:(ji p).2≠0):mc p (vk l p)=(jZ,(ji p).2):=by
 unfold ji at h ⊢;by_cases h1:fA p=0
 ·rw[if_neg (fun hh=>hh h1)]at h ⊢;by_cases h2:p.leader < 0
  ·rw[if_pos h2,vk,if_pos h2,jz h1 (by decide)]
  ·obtain⟨k,r,hk,hr,-⟩:=mM (jt h1) h2;rw[if_neg h2,hk]at h;dsimp only at h;exact absurd rfl h
 ·rw[if_pos h1,mc,if_neg h1]
theorem E4{p:Pt}(h:(ji p).2=0):fA p=0∧¬ p.leader < 0∧∃ k r,(atR p.reps p.leader=some k∧p.reps[k]?=some r)∧(ji p).1=r.log:=by
 unfold ji at h ⊢;by_cases h1:fA p=0
 ·rw[if_neg (fun hh=>hh h1)]at h ⊢;by_cases h2:p.leader < 0
  ·rw[if_pos h2]at h;cases h
  ·obtain⟨k,r,hk,hr,-⟩:=mM (jt h1) h2;rw[if_neg h2,hk];dsimp only;exact⟨h1,h2,k,r,⟨rfl,hr⟩,by rw[hr];rfl⟩
 ·rw[if_pos h1]at h;exact absurd h h1
theorem AC(p:Pt)(l:Lg)(cs cl:Kt)(G:Ks)(hp:PE G p cs)(hsm:smP p)(hl:LE G l cl):FnD Tryz.prog 42 #[.agg cs.toArray,.agg cl.toArray] G (PtR (mc p (vk l p))):=by
 have hlead:=AR p cs G hp hsm;have hle:=@IF p l;have hln:=@E4 p;have hlsm:=DD hsm;have hp0:=hp;have hl0:=hl;obtain⟨A,c,B,d,rfl,hv1,hv2,hI⟩:=hp;obtain⟨A0,c0,rfl,hls,hli⟩:=hl;generalize ji p=q at *;obtain⟨w,q2⟩:=q;dsimp only at hlead hle hln hlsm;refine F42.fnD (by simp) (dY ?_);unfold c42;unfold eB at hp0 hlead ⊢;unfold eG;intros;refine gR 0 0 c42r0.eq_1 ?_;intros;refine gR 12 17 c42r1.eq_1 ?_
 refine(hlead _ _).mono ?_;rintro v h' ⟨G1,rfl,hg1,csw,rfl,hwe⟩;have hrl:=lV l _ G1 (hl0.le hg1);have hel:=jP l _ G1 (hl0.le hg1);dsimp only at hwe;have hew:=jP w _ G1 hwe hlsm.1;obtain⟨A1,c1,rfl,-⟩:=hwe;unfold eG at hrl hel hew ⊢;refine sI ?_;intros;refine gR 17 18 c42r2.eq_1 ?_;intros;refine gC ?_;refine gb (fun k1=>?_) (fun k1=>?_)
 ·have k1:=KM k1;intros;refine gR 19 21 c42r3.eq_1 ?_;intros;refine rW ?_;rw[hle k1];exact gU _ _
 have k1:q2=0:=by simpa using k1
 obtain⟨k0,k2,k,r,⟨hk,hr⟩,rfl⟩:=hln k1;clear hle hln hlead;have hok:=jt k0;have hq:vk l p=if fS l≠0 then(p,fS l)else if fg l≠fg r.log then(p,1)else(eN (oQ p l r.eps),0):=by
  rw[vk,if_neg k2,hk];simp only[Option.bind_some,hr]
 rw[hq];clear hq;have hfd:fdR p.reps p.leader=(k:Int):=by rw[fdR,hk]
 have hp1:=hp0.le hg1;have hkl:=(List.getElem?_eq_some_iff.1 hr).1;obtain⟨_,_,he,hd,hmd,hB⟩:=id (SlR.le hg1 hv2);cases he;intros;refine gN ?_;intros;refine gR 21 23 c42r4.eq_1 ?_;refine fK (hrl _ _) ?_;intros;refine gR 23 24 c42r5.eq_1 ?_;intros;refine gC ?_;refine gb (fun k3=>?_) (fun k3=>?_)
 ·have k3:=KM k3;intros;refine gR 25 27 c42r6.eq_1 ?_;intros;refine rW ?_;rw[if_pos k3,jz k0 k3];exact gU _ _
 have k3:fS l=0:=by simpa using k3
 have hel:=hel (na k3);have hml:=(ib k3).2.2.2;rw[if_neg (fun h=>h k3)];intros;refine gN ?_;intros;refine dT ?_;refine lk _ KJ (by decide) ?_;refine sJ c42r7.eq_1 ?_;refine fK (hel _ _) ?_;refine fK (hew _ _) ?_;intros;refine gC ?_;refine gb (fun k4=>?_) (fun k4=>?_)
 ·have k4:=KM k4;intros;refine gR 32 33 c42r8.eq_1 ?_;intros;refine rW ?_;rw[if_pos k4,jz k0 (by decide)];exact gU _ _
 have k4:fg l=fg r.log:=by simpa using k4
 rw[if_neg (fun h=>h k4),lc k0];intros;refine gN ?_;intros;refine dT ?_;refine lk _ KJ (by decide) ?_;refine sJ c42r9.eq_1 ?_;refine fK (kL p p.leader _ G1 hp1 _ _) ?_;rw[hfd];refine sI ?_;refine Jz (k:=k) (Pu:=fun u=>∃ B d,u=.slice B r.eps.length d∧SEp G1 (.slice B r.eps.length d) r.eps) hB hr rfl rfl (fun cs h=>by obtain⟨_,_,B,d,rfl,-,h1,-⟩:=h;exact⟨_,rfl,B,d,rfl,h1⟩) ?_
 rintro a2 ha2 u ⟨B1,d1,rfl,hes⟩;refine sI ?_;have hsr:=hsm.1 r (mem_of_getElem? hr);intros;try refine ed ?_
 refine eL (fun e h=>∃ (G':Ks) (A2:Ky) (c2:Nat) (B2:Ky) (d2:Nat),(Gle G1 G'∧PE G' (oQ p l r.eps) (eB p A2 c2 B2 d2))∧h=⟨G',[.reg 4 [.int .i64 0,.int .i64 0,.int .i64 0,.slice none 0 0,.slice none 0 0],.reg 3 [.int .i64 l.limit,.int .i64 l.start,.slice A0 l.segs.length c0],.reg 2 (eB p A2 c2 B2 d2)],[]⟩) ?_ ?_
 ·refine dU (h':=⟨G1,[.reg 4 [.int .i64 0,.int .i64 0,.int .i64 0,.slice none 0 0,.slice none 0 0],.reg 3 [.int .i64 l.limit,.int .i64 l.start,.slice A0 l.segs.length c0],.reg 2 [.int .i64 p.epoch,.int .i64 p.leader,.int .i64 p.least,.slice A p.isr.length c,.slice B p.reps.length d]],[]⟩) (dX (.cons _ KJ)) ?_;intros;refine gR 0 0 c42r10.eq_1 ?_;intros;refine dT ?_
  refine ej (fun e h=>∃ (t:Nat) (G':Ks) (A2:Ky) (c2:Nat) (B2:Ky) (d2:Nat) (Lh:Kv),(t≤p.reps.length∧Gle G1 G'∧PE G' (qz p l r.eps t) (eB p A2 c2 B2 d2))∧e 9=.slice B1 r.eps.length d1∧e 10=.int .i64 t∧h=⟨G',Lh,[]⟩∧([.reg 4 [.int .i64 0,.int .i64 0,.int .i64 0,.slice none 0 0,.slice none 0 0],.reg 3 [.int .i64 l.limit,.int .i64 l.start,.slice A0 l.segs.length c0],.reg 2 (eB p A2 c2 B2 d2)]:Kv).Sublist Lh) (fun e h=>p.reps.length - iv (e 10)) ?_ ?_
  ·exact⟨0,G1,A,c,B,d,_,⟨Nat.zero_le _,.refl _,hp1⟩,eE,eE,rfl,List.Sublist.refl _⟩
  rintro e h ⟨t,G',A2,c2,B2,d2,Lh,⟨ht,hg',hpt⟩,e9,e10,rfl,hsub⟩;refine dV [9,10] ?_;refine sJ2 @e9 @e10 ?_;intros;refine dU (dX hsub) ?_;clear hsub;have hpt0:=hpt;unfold eB at hpt ⊢;intros;refine gR 42 46 c42r11.eq_1 ?_;intros;refine gC ?_;refine gb (fun k5=>?_) (fun k5=>?_)
  ·have k5:t < p.reps.length:=by have:=KM k5;omega
   obtain⟨y,hy⟩:∃ s,p.reps[t]?=some s:=⟨p.reps[t],getElem?_eq_getElem (by omega)⟩;have hyt:((p.reps.take t).map (m7 l r.eps)++p.reps.drop t)[t]?=some y:=by
    rw[List.getElem?_append_right (by simp;omega)];simp[show min t p.reps.length=t from by omega,hy]
   have hstep:hO (qz p l r.eps t) t (m7 l r.eps y)=qz p l r.eps (t+1):=by
    have:=oH (f:=m7 l r.eps) hy;unfold hO qz;rw[← this]
   have hlt:(qz p l r.eps t).reps.length=p.reps.length:=by unfold qz;simp;omega
   obtain⟨A3,c3,B3,d3,he,hv3,hv4,hI3⟩:=id hpt;have hB3:B3=B2∧d3=d2:=by
    unfold eB at he;simp only[List.cons.injEq,Value.slice.injEq]at he;exact⟨he.2.2.2.2.1.1.symm,he.2.2.2.2.1.2.2.symm⟩
   obtain⟨rfl,rfl⟩:=hB3;obtain⟨_,_,he2,hd3,hmd3,hB3⟩:=id hv4;cases he2;rw[hlt]at hd3;have hw:=eW t d3 (by omega) hmd3;have hyt:(qz p l r.eps t).reps[t]?=some y:=hyt;intros;refine gN ?_;intros;try refine ed ?_
   have hsy:=hsm.1 y (mem_of_getElem? hy);intros;refine gR 50 54 c42r12.eq_1 ?_;refine⟨by omega,(SlA.x_ld hB3 hyt rfl rfl ?_).2⟩;rintro a3 ha3 csy hre;obtain⟨A5,c5,B5,d5,rfl,q1,q2,q3,q4⟩:=hre;unfold fk;refine sI ?_;intros;refine gR 0 0 c42r13.eq_1 ?_;intros;refine gC ?_;refine gb (fun k6=>?_) (fun k6=>?_)
   ·have k6:y.up=true:=by simpa using k6
    have hel2:=jP l _ G' (hl0.le (hg1.trans hg')) (na k3);unfold eG at hel2;have hrep:m7 l r.eps y={ y with log:=l,eps:=r.eps,high:=min y.high (fg l) }:=by rw[m7,if_pos k6]
    have hei:=kw l;have hwith:=nh (qz p l r.eps t) t (m7 l r.eps y) _ _ G' hpt0 (by
     rw[hrep]
     refine⟨A0,c0,B1,d1,rfl,SlSE.le (hg1.trans hg') hls,hes.le hg' KO,hli,q4.1,?_⟩
     have:=q4.2
     unfold I64 at this ⊢
     show _≤min y.high (fg l)∧min y.high (fg l)≤_
     omega) (by omega) (by have:=hsm.2.1;omega)
    rw[hstep]at hwith;unfold fk eB at hwith;dsimp only at hwith;intros;refine gN ?_;intros;refine gR 56 57 c42r14.eq_1 ?_;intros;refine gR 58 59 c42r15.eq_1 ?_;intros;refine dT ?_;refine Aq _ KJ (by decide) ?_;refine sJ c42r16.eq_1 ?_;refine fK (hel2 _ _) ?_;refine sJ c42r17.eq_1 ?_;intros;refine gR 66 70 c42r18.eq_1 ?_;refine(hwith _ _).mono ?_;rintro v h' ⟨G2,rfl,hg2,cs2,rfl,hpe2⟩
    have hpe20:=hpe2;obtain⟨A7,c7,B7,d7,rfl,-⟩:=hpe2;rw[v6 _ _ _ _ _ _ _ _ (by omega)]at hpe20 ⊢;unfold eB at hpe20 ⊢;refine sI ?_;intros;refine gR2 47 49 c42r19.eq_1 @hw ?_;intros;refine dT ?_;refine eF ⟨⟨t+1,G2,A7,c7,B7,d7,_,⟨by omega,hg'.trans hg2,hpe20⟩,eE,eE,rfl,.cons _ KJ⟩,?_⟩;refine sI ?_;omega
   ·have hry:m7 l r.eps y=y:=by rw[m7,if_neg (by rw[show y.up=false by simpa using k6];simp)]
    have hset:hO (qz p l r.eps t) t y=qz p l r.eps t:=by
     have h1:(qz p l r.eps t).reps.set t y=(qz p l r.eps t).reps:=List.ext_getElem? fun i=>by
      rw[List.getElem?_set];split
      ·rename_i he;subst he;rw[hyt,if_pos (by omega)]
      ·rfl
     unfold hO;rw[h1]
    rw[hry,hset]at hstep;intros;refine gN ?_;intros;refine gR2 47 49 c42r19.eq_1 @hw ?_;intros;refine dT ?_;refine eF ⟨⟨t+1,G',A2,c2,B3,d3,_,⟨by omega,hg',by rw[← hstep];exact hpt⟩,eE,eE,rfl,.cons _ KJ⟩,?_⟩;refine sI ?_;omega
  ·have k5:t=p.reps.length:=by have:=KN k5;omega
   subst k5;refine eg ?_;refine sI ?_;intros;refine gN ?_;refine eF ⟨G',A2,c2,B2,d2,⟨hg',?_⟩,rfl⟩;have:qz p l r.eps p.reps.length=oQ p l r.eps:=by unfold qz oQ;rw[take_length,List.drop_length,append_nil]
   rw[← this];exact hpt0
 rintro e h ⟨G',A2,c2,B2,d2,⟨hg',hpe⟩,rfl⟩;refine dV [] ?_;have hrp:=wc hok hsm k3 hsr.2.2;have hra:=mz (oQ p l r.eps) _ G' hpe hrp.1 hrp.2.1 hrp.2.2 (by show(p.reps.map _).length≤_;rw[List.length_map];exact hsm.2.1);unfold eB at hra ⊢;intros;refine gR 70 72 c42r20.eq_1 ?_;refine(hra _ _).mono ?_;rintro v h' ⟨G5,rfl,hg5,cs5,rfl,hpe⟩;have hpe0:=hpe;obtain⟨A9,c9,B9,d9,rfl,-⟩:=hpe;unfold eB at hpe0 ⊢
 refine sI ?_;intros;refine rW ?_;exact⟨_,rfl,hpe0⟩
theorem F10:Fun Tryz.prog 10 128 v10 c10 o10:=Fun.mkA Tryz.func10 Tryz.ntmps10
theorem rt(p:Pt)(n t:Int)(l:Lg)(cs cl:Kt)(G:Ks)(hp:PE G p cs)(hn:I64 n)(ht:I64 t)(hl:LE G l cl):FnS Tryz.prog 10 #[.agg cs.toArray,.int .i64 n,.int .i64 t,.agg cl.toArray] G (.bool true):=by
 have hlive:=Ji G;have hfew:=Cf p cs G hp;have hp0:=hp;have hl0:=hl;obtain⟨A,c,B,d,rfl,-⟩:=hp;obtain⟨A0,c0,rfl,-⟩:=hl;unfold eB at hp0 hfew ⊢;unfold eG at hl0 ⊢;refine F10.fnS (by simp) (dY ?_);unfold c10
 have hyes:∀ (fr:KA) (e:Env),e 9=.bool true→go none Tryz.prog 128 v10.1 v10.2 (fI o10 fun v x=>v=.bool true) (Td.s ((SC.reg false c10r3).seq .ret) :: fr) e ⟨G,[.reg 7 [.int .i64 l.limit,.int .i64 l.start,.slice A0 l.segs.length c0],.reg 4 [.int .i64 p.epoch,.int .i64 p.leader,.int .i64 p.least,.slice A p.isr.length c,.slice B p.reps.length d]],[]⟩:=fun fr e e9=>by
  intros;refine gR2 36 37 c10r3.eq_1 @e9 ?_;intros;refine rV ?_;simp only[push_cast,Nat.reduceBEq]
 intros;refine gR 0 0 c10r0.eq_1 ?_;intros;refine gR 26 27 c10r1.eq_1 ?_;refine fK (hlive _ _) ?_;intros;refine gR 27 35 c10r2.eq_1 ?_;refine(hfew _ _).mono ?_;rintro r h' ⟨⟨b1,rfl,hb1⟩,rfl⟩;cases b1 with
 | false =>
  refine sI ?_;intros;refine gC ?_;exact hyes _ _ (eE)
 | true =>
 have hfw:=hb1 rfl;have hsm:=hfw.sm;refine sI ?_;intros;refine gC ?_;refine gb (fun k1=>?_) (fun k1=>?_)
 ·exact hyes _ _ (eE)
 clear hyes hfew hlive hb1;intros;refine gN ?_;intros;refine gR 37 44 c10r4.eq_1 ?_;refine(tL p _ n t G hp0 hsm hn ht _ _).mono ?_;rintro r h' ⟨G1,rfl,hg1,cs1,rfl,hpe1⟩;have ha1:=hg1;have hR1:=xK p _ n t G1 (hp0.le ha1) hsm hn ht;generalize ofP p n (i9 n t)=q1 at *;obtain⟨p1,e1⟩:=q1;dsimp only at hpe1 ⊢;have hq1:=hpe1;obtain⟨B1,d1,D1,f1,rfl,-⟩:=hpe1;unfold eB at hq1 ⊢;refine sI ?_
 intros;refine gR 44 51 c10r5.eq_1 ?_;refine(hR1 _ _).mono ?_;rintro r h' ⟨G2,rfl,hg2,cs2,rfl,hpe2⟩;have ha2:=ha1.trans hg2;dsimp only at hpe2 ⊢;have hq2:=hpe2;obtain⟨B2,d2,D2,f2,rfl,-⟩:=hpe2;unfold eB at hq2 ⊢;refine sI ?_;intros;refine gR 51 57 c10r6.eq_1 ?_;refine(sS p _ n G2 (hp0.le ha2) hsm hn _ _).mono ?_;rintro r h' ⟨G3,rfl,hg3,cs3,rfl,hpe3⟩;have ha3:=ha2.trans hg3
 have hR3:=AE p _ n G3 (hp0.le ha3) hsm hn;generalize ofP p n li=q3 at *;obtain⟨p3,e3⟩:=q3;dsimp only at hpe3 ⊢;have hq3:=hpe3;obtain⟨B3,d3,D3,f3,rfl,-⟩:=hpe3;unfold eB at hq3 ⊢;refine sI ?_;intros;refine gR 57 63 c10r7.eq_1 ?_;refine(hR3 _ _).mono ?_;rintro r h' ⟨G4,rfl,hg4,cs4,rfl,hpe4⟩;have ha4:=ha3.trans hg4;dsimp only at hpe4 ⊢;have hq4:=hpe4;obtain⟨B4,d4,D4,f4,rfl,-⟩:=hpe4;unfold eB at hq4 ⊢
 refine sI ?_;intros;refine gR 63 69 c10r8.eq_1 ?_;refine(pt p _ n G4 (hp0.le ha4) hsm hn _ _).mono ?_;rintro r h' ⟨G5,rfl,hg5,cs5,rfl,hpe5⟩;have ha5:=ha4.trans hg5;have hR5:=vv p _ n G5 (hp0.le ha5) hsm hn;generalize ofP p n (hY n)=q5 at *;obtain⟨p5,e5⟩:=q5;dsimp only at hpe5 ⊢;have hq5:=hpe5;obtain⟨B5,d5,D5,f5,rfl,-⟩:=hpe5;unfold eB at hq5 ⊢;refine sI ?_;intros;refine gR 69 75 c10r9.eq_1 ?_
 refine(hR5 _ _).mono ?_;rintro r h' ⟨G6,rfl,hg6,cs6,rfl,hpe6⟩;have ha6:=ha5.trans hg6;dsimp only at hpe6 ⊢;have hq6:=hpe6;obtain⟨B6,d6,D6,f6,rfl,-⟩:=hpe6;unfold eB at hq6 ⊢;refine sI ?_;intros;refine gR 75 81 c10r10.eq_1 ?_;refine(Ek p l _ _ G6 (hp0.le ha6) hsm (hl0.le ha6) _ _).mono ?_;rintro r h' ⟨G7,rfl,hg7,cs7,rfl,hpe7⟩;have ha7:=ha6.trans hg7
 have hR7:=AC p l _ _ G7 (hp0.le ha7) hsm (hl0.le ha7);generalize mc p (vk l p)=q7 at *;obtain⟨p7,e7⟩:=q7;dsimp only at hpe7 ⊢;have hq7:=hpe7;obtain⟨B7,d7,D7,f7,rfl,-⟩:=hpe7;unfold eB at hq7 ⊢;refine sI ?_;intros;refine gR 81 87 c10r11.eq_1 ?_;refine(hR7 _ _).mono ?_;rintro r h' ⟨G8,rfl,hg8,cs8,rfl,hpe8⟩;have ha8:=ha7.trans hg8;dsimp only at hpe8 ⊢;have hq8:=hpe8;obtain⟨B8,d8,D8,f8,rfl,-⟩:=hpe8
 unfold eB at hq8 ⊢;refine sI ?_;have hs1:=nc p1 _ _ G8 (hq1.le (hg2.trans (hg3.trans (hg4.trans (hg5.trans (hg6.trans (hg7.trans hg8))))))) (hq2.le (hg3.trans (hg4.trans (hg5.trans (hg6.trans (hg7.trans hg8))))));have hs3:=nc p3 _ _ G8 (hq3.le (hg4.trans (hg5.trans (hg6.trans (hg7.trans hg8))))) (hq4.le (hg5.trans (hg6.trans (hg7.trans hg8))))
 have hs5:=nc p5 _ _ G8 (hq5.le (hg6.trans (hg7.trans hg8))) (hq6.le (hg7.trans hg8));have hs7:=nc p7 _ _ G8 (hq7.le hg8) hq8;clear hR1 hR3 hR5 hR7;intros;refine gR 87 128 c10r12.eq_1 ?_;refine fJ (hs1 _ _) @ny ?_;refine fJ (hs3 _ _) @ny ?_;refine fJ (hs5 _ _) @ny ?_;refine fJ (hs7 _ _) @ny ?_;intros;refine rV ?_;simp only[push_cast,Nat.reduceBEq]
end Go.Proofs.YtpmofpekcbghnaaGreat

/- Parts of a proof, 7 texts in one file. No condition. -/
import Derived.Test.YtedljandnpigpaaM1
import Derived.Test.YtedljandnpigpaaM2
import Derived.Test.YtedljandnpigpaaM3
import Derived.Test.YtedljandnpigpaaM4
import Derived.Test.YtedljandnpigpaaM5
import Derived.Test.YtedljandnpigpaaM6
set_option linter.unusedSimpArgs false
set_option linter.unusedVariables false
namespace Go.Proofs.Ytedljandnpigpaa
open Go Go.Kx
theorem F54 : Fun Try.prog 54 4 v54 c54 o54 := Fun.mk' Try.func54 Try.ntmps54 (by kernel_rfl) (by kernel_rfl) s54 q54
theorem F64 : Fun Try.prog 64 19 v64 c64 o64 := Fun.mk' Try.func64 Try.ntmps64 (by kernel_rfl) (by kernel_rfl) s64 q64
theorem F37 : Fun Try.prog 37 16 v37 c37 o37 := Fun.mk' Try.func37 Try.ntmps37 (by kernel_rfl) (by kernel_rfl) s37 q37
theorem F18 : Fun Try.prog 18 8 v18 c18 o18 := Fun.mk' Try.func18 Try.ntmps18 (by kernel_rfl) (by kernel_rfl) s18 q18
theorem F38 : Fun Try.prog 38 8 v38 c38 o38 := Fun.mk' Try.func38 Try.ntmps38 (by kernel_rfl) (by kernel_rfl) s38 q38
theorem F20 : Fun Try.prog 20 8 v20 c20 o20 := Fun.mk' Try.func20 Try.ntmps20 (by kernel_rfl) (by kernel_rfl) s20 q20
theorem F39 : Fun Try.prog 39 8 v39 c39 o39 := Fun.mk' Try.func39 Try.ntmps39 (by kernel_rfl) (by kernel_rfl) s39 q39
def EI (l : List En) (_ : Nat → Option Obj) (i : Nat) (args : Array Value) : Prop := ∃ x, l[i]? = some x ∧ args = #[.int .i64 i, .agg #[.int .i64 x.off, .int .i64 x.pos, .int .i64 x.stamp]]
theorem rev_at {n t : Nat} (h : t < n) : (List.range n).reverse[t]? = some (n - 1 - t) := by
 rw [List.getElem?_reverse (by simpa using h), List.length_range, List.getElem?_range (by omega)]
theorem rev_lt {n t i : Nat} (h : (List.range n).reverse[t]? = some i) : t < n ∧ i = n - 1 - t := by
 have h1 : t < n := by have := (List.getElem?_eq_some_iff.1 h).1; simpa using this
 rw [rev_at h1] at h
 cases h
 exact ⟨h1, rfl⟩
theorem Backward1_iter (l : List En) (A : Option Addr) (c b : Nat) (G0 : Nat → Option Obj) (hc : l.length ≤ c) (hm : c ≤ maxLen) (hA : SlA G0 EnE 3 A l) (h1 : cellG G0 ⟨b, 0, none⟩ = some (.slice A l.length c)) :
   IterH Try.prog 64 #[.pointer (some ⟨b, 0, none⟩)] (List.range l.length).reverse (EI l) G0 := by
 intro yl I Ix G L hG hn hI hIx hmo h0 hy L2 D
 have hargs : (#[.func (.yield yl) #[] #[]] ++ #[.pointer (some ⟨b, 0, none⟩)] : Array Value) = #[.func (.yield yl) #[] #[], .pointer (some ⟨b, 0, none⟩)] := rfl
 rw [hargs]
 refine (F64.calls (R := fun _ h => Gle G h.G ∧ (I l.length h.G h.L ∨ ∃ i, i < l.length ∧ Ix i h.G h.L)) (by simp) hn (go_of ?_) L2 D).mono ?_
 · have e1 := cellG_le hG h1
   unfold c64
   (intros; try refine go_st ?_); refine go_r 4 7 (by decide) ?_; (refine sJ c64r0.eq_1 ?_; try with_reducible exact True.intro)
   refine ⟨_, ⟨_, rfl, .g e1⟩, ?_⟩
   have hw0 : IntKind.i64.wrap ((l.length : Int) - 1) = (l.length : Int) - 1 := by unfold maxLen at hm; rw [w64_id] <;> omega
   (refine sJ @hw0 ?_; try with_reducible exact True.intro)
   (intros; try refine go_st ?_)
   refine go_loop (fun e h => ∃ (t : Nat) (G' : Nat → Option Obj) (L' : List Kx.Item), (t ≤ l.length ∧ Gle G G' ∧ NoRegs L' ∧ I t G' L') ∧ e 3 = .int .i64 ((l.length : Int) - 1 - t) ∧ e 0 = .func (.yield yl) #[] #[] ∧ e 1 = .pointer (some ⟨b, 0, none⟩) ∧ h = ⟨G', L', []⟩) (fun e h => iv1 (e 3)) ?_ ?_
   · refine ⟨0, G, L, ⟨Nat.zero_le _, .refl G, hn, h0⟩, ?_, rfl, rfl, rfl⟩
     (refine sI ?_; try with_reducible exact True.intro)
     simp
   · rintro e h ⟨t, G', L', ⟨ht, hgg, hn', hI'⟩, e3, e0, e1', rfl⟩
     refine go_keep [0, 1, 3] ?_
     (refine sJ3 @e0 @e1' @e3 ?_; try with_reducible exact True.intro)
     (intros; try refine go_st ?_); refine go_r 7 8 (by decide) ?_; (refine sJ c64r1.eq_1 ?_; try with_reducible exact True.intro)
     (intros; try refine go_st ?_); refine go_c ?_; (refine sI ?_; try with_reducible exact True.intro)
     refine gb (fun h2 => ?_) (fun h2 => ?_)
     · have htl : t < l.length := by simp at h2; omega
       obtain ⟨x, hx⟩ : ∃ x, l[l.length - 1 - t]? = some x := ⟨l[l.length - 1 - t], List.getElem?_eq_getElem (by omega)⟩
       have e1g := cellG_le hgg e1
       have hAg := (hA.le hG fun _ _ h => h).le hgg fun _ _ h => h
       have hcast : (l.length : Int) - 1 - t = ((l.length - 1 - t : Nat) : Int) := by omega
       (intros; try refine go_st ?_); refine go_r 11 18 (by decide) ?_; (refine sJ c64r2.eq_1 ?_; try with_reducible exact True.intro)
       refine ⟨_, ⟨_, rfl, .g e1g⟩, ?_⟩
       (refine sI ?_; try with_reducible exact True.intro)
       refine hAg.x_ld hx hcast rfl ?_
       rintro a1 ha1 cs hcs
       cases (show cs = cellE x from hcs)
       unfold cellE
       (refine sI ?_; try with_reducible exact True.intro)
       refine .inr ⟨yl, rfl, ?_⟩
       refine (yield_nil hy (rev_at htl) hgg ⟨x, hx, by rw [hcast]⟩ hI').mono ?_
       rintro v h' ⟨G2, L3, rfl, hg2, hn2, hr⟩
       rcases hr with ⟨rfl, hr⟩ | ⟨rfl, hr⟩
       · (refine sI ?_; try with_reducible exact True.intro)
         (intros; try refine go_st ?_); refine go_c ?_; (refine sI ?_; try with_reducible exact True.intro)
         have hw : IntKind.i64.wrap ((l.length : Int) - 1 - t - 1) = (l.length : Int) - 1 - ((t + 1 : Nat) : Int) := by unfold maxLen at hm; rw [w64_id] <;> omega
         (intros; try refine go_st ?_); refine go_r 9 11 (by decide) ?_; (refine sJ2 c64r3.eq_1 @hw ?_; try with_reducible exact True.intro)
         (intros; try refine go_st ?_)
         refine go_l ⟨⟨t + 1, G2, L3, ⟨by omega, hgg.trans hg2, hn2, hr⟩, eE, eE, eE, rfl⟩, ?_⟩
         (refine sJ @iv1_i ?_; try with_reducible exact True.intro)
         omega
       · (refine sI ?_; try with_reducible exact True.intro)
         (intros; try refine go_st ?_); refine go_c ?_; (refine sI ?_; try with_reducible exact True.intro)
         (intros; try refine go_st ?_)
         refine go_ret (retQ_o L3 rfl (List.Sublist.refl _) hn2 ?_)
         exact ⟨hgg.trans hg2, .inr ⟨t, htl, hr⟩⟩
     · have htl : t = l.length := by simp at h2; omega
       subst htl
       refine go_exit ?_
       (refine sI ?_; try with_reducible exact True.intro)
       refine go_nil ?_
       exact ⟨[], rfl, ⟨G', L', []⟩, ghost_sub (List.Sublist.refl _), hn', hgg, .inl hI'⟩
 · rintro v h' ⟨G', L', rfl, hn', hgg, hr⟩
   exact ⟨G', L', rfl, hgg, hn', by simpa using hr⟩
theorem Backward_ok (l : List En) (A : Option Addr) (c : Nat) (G : Nat → Option Obj) (hc : l.length ≤ c) (hm : c ≤ maxLen) (hA : SlA G EnE 3 A l) :
   FnD Try.prog 54 #[.slice A l.length c] G (fun G' r => ∃ b, r = .func (.func 64) #[] #[.pointer (some ⟨b, 0, none⟩)] ∧ IterH Try.prog 64 #[.pointer (some ⟨b, 0, none⟩)] (List.range l.length).reverse (EI l) G') := by
 refine F54.fnD (by simp) (go_of ?_)
 unfold c54
 (intros; try refine go_st ?_); refine go_r 0 0 (by decide) ?_; (refine sJ c54r0.eq_1 ?_; try with_reducible exact True.intro)
 intro b1 hb1
 (intros; try refine go_st ?_)
 refine go_gx gx_blk ?_
 rintro h' ⟨G1, rfl, hg1, hc1⟩
 have e1 := hc1 0 _ rfl
 rw [add_off] at e1
 (intros; try refine go_st ?_); refine go_r 3 4 (by decide) ?_; (refine sJ c54r1.eq_1 ?_; try with_reducible exact True.intro)
 (intros; try refine go_st ?_)
 refine go_ret (retQ_v rfl ?_); simp only [push_cast, Nat.reduceBEq]
 exact ⟨b1, rfl, Backward1_iter l A c b1 G1 hc hm (hA.le hg1 fun _ _ h => h) e1⟩
theorem last_ok (l : List En) (p : En → Bool) (f : Nat) (cap : Array Value) (v : Value) (G : Nat → Option Obj) (hl : SlV G EnE 3 v l) (hp : ∀ G', Gle G G' → ∀ e, FnS Try.prog f (#[.agg (cellE e).toArray] ++ cap) G' (.bool (p e))) :
   FnS Try.prog 37 #[v, .func (.func f) #[] cap] G (.int .i64 (lastE p l)) := by
 obtain ⟨A, c, rfl, hc, hm, hA⟩ := hl
 refine F37.fnS (by simp) (go_of ?_)
 unfold c37
 (intros; try refine go_st ?_); refine go_r 0 0 (by decide) ?_; (refine sJ c37r0.eq_1 ?_; try with_reducible exact True.intro)
 intro b3 hb3 b4 hb4
 (intros; try refine go_st ?_)
 refine go_gx (gx_blk_at [_] _) ?_
 rintro h' ⟨G1, rfl, hg1, f3⟩
 have e3 := f3 0 _ rfl
 rw [add_off] at e3
 (intros; try refine go_st ?_); refine go_r 7 8 (by decide) ?_; (refine sJ c37r1.eq_1 ?_; try with_reducible exact True.intro)
 refine (Backward_ok l A c G1 hc hm (hA.le hg1 fun _ _ h => h) _ _).mono ?_
 rintro r h' ⟨G2, rfl, hg2, b, rfl, hit⟩
 (refine sI ?_; try with_reducible exact True.intro)
 (intros; try refine go_st ?_)
 have fin : ∀ (m : Int) (G6 : Nat → Option Obj) (D : List Nat) (e : Env), m = lastE p l → e 4 = .pointer (some ⟨b4, 0, none⟩) → retQ o37 (fun v (_ : H) => v = .int .i64 (lastE p l)) .ret e ⟨G6, [.blk b4 [.int .i64 m]], D⟩ := fun m G6 D e hm e4 => by
   subst hm
   exact retQ_v (resV_c (b := b4) (v := .int .i64 (lastE p l)) e4 (getB_h _ _ _)) rfl
 refine go_rf (α := Nat) (fun k G' L' => L' = [.blk b4 [.int .i64 0]] ∧ lastE p l = lastE p (l.take (l.length - k))) (fun ex k G' L' => ex = .ret ∧ L' = [.blk b4 [.int .i64 (lastE p l)]]) (eE) F64.enters (noRegs_blk noRegs_nil)
   (fun i G G' L hg h => h) hit (fun G x args h => by obtain ⟨y, _, rfl⟩ := h; rfl) ⟨rfl, by rw [Nat.sub_zero, List.take_length]⟩ ?_ ?_ ?_
 · rintro yl k i args G' L' hki hgl ⟨x, hx, rfl⟩ ⟨rfl, hlast⟩ _
   obtain ⟨hkl, rfl⟩ := rev_lt hki
   have e3' := cellG_le (hg2.trans hgl) e3
   have hpx := hp G' (hg1.trans (hg2.trans hgl)) x
   have hst := lastE_at1 p hx
   rw [show l.length - 1 - k + 1 = l.length - k by omega, ← hlast] at hst
   unfold cellE at hpx
   (refine sI ?_; try with_reducible exact True.intro)
   (intros; try refine go_st ?_); refine go_r 0 0 (by decide) ?_; (refine sJ c37r2.eq_1 ?_; try with_reducible exact True.intro)
   intro bb
   refine go_nil (rnd_a ?_)
   (intros; try refine go_st ?_); refine go_r 11 13 (by decide) ?_; (refine sJ c37r3.eq_1 ?_; try with_reducible exact True.intro)
   refine ⟨_, ⟨_, rfl, .g e3'⟩, ?_⟩
   (refine sI ?_; try with_reducible exact True.intro)
   refine .inl ⟨f, cap, rfl, (hpx _ _).mono ?_⟩
   rintro _ _ ⟨rfl, rfl⟩
   (refine sI ?_; try with_reducible exact True.intro)
   (intros; try refine go_st ?_); refine go_c ?_; (refine sI ?_; try with_reducible exact True.intro)
   refine gb (fun h1 => ?_) (fun h1 => ?_)
   · rw [if_pos h1] at hst
     (intros; try refine go_st ?_); refine go_r 15 16 (by decide) ?_; (refine sJ c37r4.eq_1 ?_; try with_reducible exact True.intro)
     refine stX_blk [_] [] rfl (by simp) ⟨rfl, rfl⟩ ?_
     (refine sI ?_; try with_reducible exact True.intro)
     (intros; try refine go_st ?_)
     refine go_ret (rnd_r _ (.cons _ (List.Sublist.refl _)) (noRegs_blk noRegs_nil) ⟨rfl, ?_⟩)
     rw [hst]
   · have h1 : ¬ p x = true := by simpa using h1
     rw [if_neg h1] at hst
     (repeat first | (with_reducible intro _) | refine go_skip ?_ | refine go_b ?_)
     refine go_nil (rnd_n _ (.cons _ (List.Sublist.refl _)) (noRegs_blk noRegs_nil) ⟨rfl, ?_⟩)
     rw [hst, show l.length - (k + 1) = l.length - 1 - k by omega]
 · rintro G' L' dd hgl ⟨rfl, hlast⟩ _
   rw [List.length_reverse, List.length_range, Nat.sub_self] at hlast
   (intros; try refine go_st ?_); refine go_r 0 0 (by decide) ?_; (refine sJ c37r5.eq_1 ?_; try with_reducible exact True.intro)
   refine stX_blk [] [] rfl (by simp) ⟨rfl, rfl⟩ ?_
   (refine sI ?_; try with_reducible exact True.intro)
   (intros; try refine go_st ?_)
   refine go_ret (fin 0 _ _ _ (by rw [hlast]; rfl) ?_)
   (refine sI ?_; try with_reducible exact True.intro)
 · rintro ex i G' L' d _ _ ⟨rfl, rfl⟩ _
   refine fin _ _ _ _ rfl ?_
   (refine sI ?_; try with_reducible exact True.intro)
theorem Floor1_ok (e : En) (off : Int) (b : Nat) (G : Nat → Option Obj) (h : cellG G ⟨b, 0, none⟩ = some (.int .i64 off)) : FnS Try.prog 38 #[.agg (cellE e).toArray, .pointer (some ⟨b, 0, none⟩)] G (.bool (offP off e)) := by
 refine F38.fnS (by simp) (go_of ?_)
 unfold c38 cellE
 (intros; try refine go_st ?_); refine go_r 0 0 (by decide) ?_; (refine sJ c38r0.eq_1 ?_; try with_reducible exact True.intro)
 (intros; try refine go_st ?_); refine go_r 5 8 (by decide) ?_; (refine sJ c38r1.eq_1 ?_; try with_reducible exact True.intro)
 refine ⟨_, ⟨_, rfl, .g h⟩, ?_⟩
 (refine sI ?_; try with_reducible exact True.intro)
 (intros; try refine go_st ?_)
 refine go_ret (retQ_v rfl ?_); simp only [push_cast, Nat.reduceBEq]
 rfl
theorem When1_ok (e : En) (stamp : Int) (b : Nat) (G : Nat → Option Obj) (h : cellG G ⟨b, 0, none⟩ = some (.int .i64 stamp)) : FnS Try.prog 39 #[.agg (cellE e).toArray, .pointer (some ⟨b, 0, none⟩)] G (.bool (stP stamp e)) := by
 refine F39.fnS (by simp) (go_of ?_)
 unfold c39 cellE
 (intros; try refine go_st ?_); refine go_r 0 0 (by decide) ?_; (refine sJ c39r0.eq_1 ?_; try with_reducible exact True.intro)
 (intros; try refine go_st ?_); refine go_r 5 8 (by decide) ?_; (refine sJ c39r1.eq_1 ?_; try with_reducible exact True.intro)
 refine ⟨_, ⟨_, rfl, .g h⟩, ?_⟩
 (refine sI ?_; try with_reducible exact True.intro)
 (intros; try refine go_st ?_)
 refine go_ret (retQ_v rfl ?_); simp only [push_cast, Nat.reduceBEq]
 rfl
theorem Floor_ok (l : List En) (off : Int) (v : Value) (G : Nat → Option Obj) (hl : SlV G EnE 3 v l) : FnS Try.prog 18 #[v, .int .i64 off] G (.int .i64 (lastE (offP off) l)) := by
 refine F18.fnS (by simp) (go_of ?_)
 unfold c18
 (intros; try refine go_st ?_); refine go_r 0 0 (by decide) ?_; (refine sJ c18r0.eq_1 ?_; try with_reducible exact True.intro)
 intro b1 hb1
 (intros; try refine go_st ?_)
 refine go_gx gx_blk ?_
 rintro h' ⟨G1, rfl, hg1, f1⟩
 have e1 := f1 0 _ rfl
 rw [add_off] at e1
 (intros; try refine go_st ?_); refine go_r 5 8 (by decide) ?_; (refine sJ c18r1.eq_1 ?_; try with_reducible exact True.intro)
 have hlast := last_ok l (offP off) 38 #[.pointer (some ⟨b1, 0, none⟩)] v G1 (hl.le hg1 fun _ _ h => h) fun G' hg e => Floor1_ok e off b1 G' (cellG_le hg e1)
 refine (hlast _ _).mono ?_; rintro _ _ ⟨rfl, rfl⟩; (refine sI ?_; try with_reducible exact True.intro)
 (intros; try refine go_st ?_)
 refine go_ret (retQ_v rfl ?_); simp only [push_cast, Nat.reduceBEq]
theorem When_ok (l : List En) (stamp : Int) (v : Value) (G : Nat → Option Obj) (hl : SlV G EnE 3 v l) : FnS Try.prog 20 #[v, .int .i64 stamp] G (.int .i64 (lastE (stP stamp) l)) := by
 refine F20.fnS (by simp) (go_of ?_)
 unfold c20
 (intros; try refine go_st ?_); refine go_r 0 0 (by decide) ?_; (refine sJ c20r0.eq_1 ?_; try with_reducible exact True.intro)
 intro b1 hb1
 (intros; try refine go_st ?_)
 refine go_gx gx_blk ?_
 rintro h' ⟨G1, rfl, hg1, f1⟩
 have e1 := f1 0 _ rfl
 rw [add_off] at e1
 (intros; try refine go_st ?_); refine go_r 5 8 (by decide) ?_; (refine sJ c20r1.eq_1 ?_; try with_reducible exact True.intro)
 have hlast := last_ok l (stP stamp) 39 #[.pointer (some ⟨b1, 0, none⟩)] v G1 (hl.le hg1 fun _ _ h => h) fun G' hg e => When1_ok e stamp b1 G' (cellG_le hg e1)
 refine (hlast _ _).mono ?_; rintro _ _ ⟨rfl, rfl⟩; (refine sI ?_; try with_reducible exact True.intro)
 (intros; try refine go_st ?_)
 refine go_ret (retQ_v rfl ?_); simp only [push_cast, Nat.reduceBEq]
theorem F13 : Fun Try.prog 13 43 v13 c13 o13 := Fun.mk' Try.func13 Try.ntmps13 (by kernel_rfl) (by kernel_rfl) s13 q13
theorem F16 : Fun Try.prog 16 41 v16 c16 o16 := Fun.mk' Try.func16 Try.ntmps16 (by kernel_rfl) (by kernel_rfl) s16 q16
theorem EA_size {bs : List Batch} (G : Nat → Option Obj) (x : Nat) (args : Array Value) (h : EA bs G x args) : args.size = [28, 29].length := by
 obtain ⟨y, _, _, _, rfl⟩ := h
 rfl
theorem all_pos {s : Sg} (h : rightB s = true) (k : Nat) : (allB ((scanB s).take k)).length ≤ 4096 ∧ (allB (scanB s)).length ≤ 4096 := by
 have h1 := allB_take_le (scanB s) k
 have h2 := rightB_iff.1 h
 have h3 := right_is h
 rw [← h3] at h1 ⊢
 omega
theorem allE_drop (s : Sg) : (allE s).drop (scanB s).length = [] := by rw [← allE_len]; exact List.drop_length
def MakeR (s : Sg) (every : Int) (L' : List Kx.Item) (r : Value) : Prop := ∃ u zc, r = .tuple #[u, .int .i64 (makeS s every).2] ∧ Cells EnE 3 (makeS s every).1 zc ∧ L' = [.row u 53 3 (makeS s every).1.length zc]
theorem Make_ok (s : Sg) (every : Int) (cs : List Value) (G : Nat → Option Obj) (hs : SE G s cs) : FnO Try.prog 13 #[.agg cs.toArray, .int .i64 every] G [] (fun _ L' r => MakeR s every L' r) := by
 have hs0 := hs
 obtain ⟨A, c, rfl, hl, hi⟩ := hs
 refine F13.fnO (by simp) noRegs_nil (go_of ?_)
 unfold c13
 unfold cellS at hs0 ⊢
 (intros; try refine go_st ?_); refine go_r 0 0 (by decide) ?_; (refine sJ c13r0.eq_1 ?_; try with_reducible exact True.intro)
 intro b2 hb2 b3 hb3
 (intros; try refine go_st ?_)
 refine go_gx (gx_blk_at [_] _) ?_
 rintro h' ⟨G1, rfl, hg1, f2⟩
 refine go_gx gx_blk ?_
 rintro h' ⟨G2, rfl, hg2, f3⟩
 have e3 := f3 0 _ rfl
 rw [add_off] at e3
 (intros; try refine go_st ?_); refine go_r 11 16 (by decide) ?_; (refine sJ c13r1.eq_1 ?_; try with_reducible exact True.intro)
 refine ⟨_, ⟨_, [.int .i64 s.base, .slice A s.bytes.length c], rfl, rfl, rfl, fun j u hu => .g (cellG_le hg2 (f2 j u hu))⟩, ?_⟩
 (refine sI ?_; try with_reducible exact True.intro)
 refine (right_ok s _ G2 (SE.le (hg1.trans hg2) hs0) _ _).mono ?_
 rintro r h' ⟨G3, L', rfl, hg3, u, bs, zc, rfl, hbs, hzc, rfl⟩
 (refine sI ?_; try with_reducible exact True.intro)
 have hbad : makeS s every = ([], 1) → ∀ (fr : List Td) (e : Env), go none Try.prog 43 v13.1 v13.2 (retQ o13 fun v h => MakeR s every h.L v) (Td.s ((SC.reg false c13r3).seq .ret) :: fr) e ⟨G3, [.row u 38 10 bs.length zc], []⟩ := fun hn fr e => by
   (intros; try refine go_st ?_); refine go_r 0 0 (by decide) ?_; (refine sJ c13r3.eq_1 ?_; try with_reducible exact True.intro)
   (intros; try refine go_st ?_)
   refine go_ghost (ghost_nil none 53 3) ?_
   refine go_ret (retQ_o _ rfl (.cons_cons _ (List.nil_sublist _)) (noRegs_row noRegs_nil) ?_)
   exact ⟨_, [], by rw [hn]; rfl, by rw [hn]; exact .nil, by rw [hn]; rfl⟩
 have e3' := cellG_le hg3 e3
 (intros; try refine go_st ?_); refine go_r 16 25 (by decide) ?_; (refine sJ c13r2.eq_1 ?_; try with_reducible exact True.intro)
 refine gd (fun k1 => ?_) (fun k1 => ?_)
 · (refine sI ?_; try with_reducible exact True.intro)
   (intros; try refine go_st ?_); refine go_c ?_; (refine sI ?_; try with_reducible exact True.intro)
   exact hbad (by rw [makeS, if_neg fun h => by rw [h.1] at k1; cases k1]) _ _
 have k1 : rightB s = true := by simpa using k1
 (refine sI ?_; try with_reducible exact True.intro)
 refine ⟨_, ⟨_, rfl, .g e3'⟩, ?_⟩
 (refine sI ?_; try with_reducible exact True.intro)
 refine gd (fun k2 => ?_) (fun k2 => ?_)
 · (refine sI ?_; try with_reducible exact True.intro)
   (intros; try refine go_st ?_); refine go_c ?_; (refine sI ?_; try with_reducible exact True.intro)
   have k2 := of_decide_eq_true k2
   exact hbad (by rw [makeS, if_neg fun h => by omega]) _ _
 have k2 := of_decide_eq_false k2
 (refine sI ?_; try with_reducible exact True.intro)
 refine ⟨_, ⟨_, rfl, .g e3'⟩, ?_⟩
 (refine sI ?_; try with_reducible exact True.intro)
 (intros; try refine go_st ?_); refine go_c ?_; (refine sI ?_; try with_reducible exact True.intro)
 refine gb (fun k3 => ?_) (fun k3 => ?_)
 · have k3 := of_decide_eq_true k3
   exact hbad (by rw [makeS, if_neg fun h => by omega]) _ _
 have k3 := of_decide_eq_false k3
 clear hbad
 have hmk : makeS s every = (mkE every 0 (allE s), 0) := by rw [makeS, if_pos ⟨k1, by omega, by omega⟩]
 have hR : ∀ u zc, Cells EnE 3 (mkE every 0 (allE s)) zc → MakeR s every [.row u 53 3 (mkE every 0 (allE s)).length zc] (.tuple #[u, .int .i64 0]) := fun u zc h => ⟨u, zc, by rw [hmk], by rw [hmk]; exact h, by rw [hmk]⟩
 have hbs := hbs k1
 subst hbs
 obtain ⟨rr, hsc⟩ := scan_spec s
 have hps := all_pos k1
 have hsl := hsc.len
 (repeat first | (with_reducible intro _) | refine go_skip ?_ | refine go_b ?_)
 (intros; try refine go_st ?_); refine go_r 0 0 (by decide) ?_; (refine sJ c13r4.eq_1 ?_; try with_reducible exact True.intro)
 intro b8 hb8
 (intros; try refine go_st ?_); refine go_r 0 0 (by decide) ?_; (refine sJ c13r5.eq_1 ?_; try with_reducible exact True.intro)
 intro b9 hb9
 refine stX_blk [] [_, _] rfl (by simp) ⟨rfl, rfl⟩ ?_
 (refine sI ?_; try with_reducible exact True.intro)
 (intros; try refine go_st ?_)
 refine go_gx (gx_slv_at [_, _] _ (by decide) hzc) ?_
 rintro h' ⟨G4, rfl, hg4, hv⟩
 have e4 := cellG_le hg4 e3'
 (intros; try refine go_st ?_); refine go_r 26 27 (by decide) ?_; (refine sJ c13r6.eq_1 ?_; try with_reducible exact True.intro)
 refine (entries_ok (scanB s) u G4 (hv.le (.refl _) fun _ _ h => BE.le hg4 h) hsc.ok (by have := (hps 0).2; omega) _ _).mono ?_
 rintro r h' ⟨G5, rfl, hg5, b, rfl, hit⟩
 have e5 := cellG_le hg5 e4
 (refine sI ?_; try with_reducible exact True.intro)
 (intros; try refine go_st ?_)
 refine go_ghost (ghost_nil none 53 3) ?_
 refine go_rf (α := Nat) (fun k G' L' => ∃ u zc out nx, L' = [.row u 53 3 (out : List En).length zc, .blk b9 [.int .i64 nx], .blk b8 [u]] ∧ Cells EnE 3 out zc ∧ (out.length ≤ k ∧ out ++ mkE every nx ((allE s).drop k) = mkE every 0 (allE s))) (fun _ _ _ _ => False) (eE) F52.enters (noRegs_row (noRegs_blk (noRegs_blk noRegs_nil)))
   (fun i G G' L hg h => h) hit EA_size ⟨_, [], [], 0, rfl, .nil, Nat.zero_le _, rfl⟩ ?_ ?_ ?_
 · rintro yl k i args G' L' hki hgl ⟨x, cs, hx, hbe, rfl⟩ ⟨u, zc, out, nx, rfl, hzc, hle, hout⟩ _
   obtain ⟨rfl, hkl⟩ := range_at hki
   have hxe := allE_get rfl hx
   have hst := mkE_at (every := every) (nx := nx) hxe
   rw [hst] at hout
   have hp := (hps i).1
   have hp0 := (hps 0).2
   have e5' := cellG_le hgl e5
   (refine sI ?_; try with_reducible exact True.intro)
   (intros; try refine go_st ?_); refine go_r 0 0 (by decide) ?_; (refine sJ c13r7.eq_1 ?_; try with_reducible exact True.intro)
   intro bb
   refine go_nil (rnd_a ?_)
   (intros; try refine go_st ?_); refine go_r 31 33 (by decide) ?_; (refine sJ c13r8.eq_1 ?_; try with_reducible exact True.intro)
   refine ⟨_, ldN_blk (.tail _ (.tail _ (.head _))) rfl, ?_⟩
   (refine sI ?_; try with_reducible exact True.intro)
   (intros; try refine go_st ?_); refine go_c ?_; (refine sI ?_; try with_reducible exact True.intro)
   refine gb (fun k5 => ?_) (fun k5 => ?_)
   · have k5 := of_decide_eq_true k5
     rw [if_pos (show nx ≤ (entAt (scanB s) i x).pos from k5)] at hout
     have hw : IntKind.i64.wrap ((((allB ((scanB s).take i)).length : Nat) : Int) + every) = (((allB ((scanB s).take i)).length : Nat) : Int) + every := by rw [w64_id] <;> omega
     (intros; try refine go_st ?_); refine go_r 34 38 (by decide) ?_; (refine sJ c13r9.eq_1 ?_; try with_reducible exact True.intro)
     refine ⟨_, ldN_blk (.tail _ (.tail _ (.tail _ (.head _)))) rfl, ?_⟩
     (refine sI ?_; try with_reducible exact True.intro)
     intro bk hbk
     refine app1 (L1 := [_]) (L2 := [_, _]) (E := EnE) (x := entAt (scanB s) i x) rfl rfl rfl (by simp [Value.oneCell']) hzc (by omega) (by omega) fun A' c' zc' hzc' => ?_
     (refine sI ?_; try with_reducible exact True.intro)
     refine stX_blk [_, _, _, _] [] rfl (by simp) ⟨rfl, rfl⟩ ?_
     (refine sI ?_; try with_reducible exact True.intro)
     (intros; try refine go_st ?_); refine go_r 39 42 (by decide) ?_; (refine sJ c13r10.eq_1 ?_; try with_reducible exact True.intro)
     refine ⟨_, ⟨_, rfl, .g e5'⟩, ?_⟩
     (refine sJ @hw ?_; try with_reducible exact True.intro)
     refine stX_blk [_, _, _] [_] rfl (by simp) ⟨rfl, rfl⟩ ?_
     (refine sI ?_; try with_reducible exact True.intro)
     (intros; try refine go_st ?_)
     refine go_nil (rnd_n _ (.cons _ (.cons _ (List.Sublist.refl _))) (noRegs_row (noRegs_blk (noRegs_blk noRegs_nil))) ⟨_, zc', out ++ [entAt (scanB s) i x], _, rfl, hzc', by simp; omega, ?_⟩)
     rw [List.append_assoc]
     exact hout
   · have k5 := of_decide_eq_false k5
     rw [if_neg (show ¬ nx ≤ (entAt (scanB s) i x).pos from k5)] at hout
     (repeat first | (with_reducible intro _) | refine go_skip ?_ | refine go_b ?_)
     exact go_nil (rnd_n _ (.cons _ (List.Sublist.refl _)) (noRegs_row (noRegs_blk (noRegs_blk noRegs_nil))) ⟨_, zc, out, nx, rfl, hzc, by omega, hout⟩)
 · rintro G' L' dd hgl ⟨u, zc, out, nx, rfl, hzc, hle, hout⟩ _
   rw [List.length_range, allE_drop, mkE, List.append_nil] at hout
   subst hout
   (intros; try refine go_st ?_); refine go_r 42 43 (by decide) ?_; (refine sJ c13r11.eq_1 ?_; try with_reducible exact True.intro)
   refine ⟨_, ldN_blk (.tail _ (.tail _ (.head _))) rfl, ?_⟩
   (refine sI ?_; try with_reducible exact True.intro)
   (intros; try refine go_st ?_)
   exact go_ret (retQ_o _ rfl (.cons_cons _ (List.nil_sublist _)) (noRegs_row noRegs_nil) (hR u zc hzc))
 · rintro ex i G' L' d _ _ h
   exact h.elim
theorem CheckI_ok (s : Sg) (l : List En) (cs : List Value) (v : Value) (G : Nat → Option Obj) (hs : SE G s cs) (hv : SlV G EnE 3 v l) : FnS Try.prog 16 #[.agg cs.toArray, v] G (.int .i64 (chkI s l)) := by
 have hs0 := hs
 obtain ⟨A, c, rfl, hl, hi⟩ := hs
 obtain ⟨B, d, rfl, hd, hm, hB⟩ := hv
 refine F16.fnS (by simp) (go_of ?_)
 unfold c16
 unfold cellS at hs0 ⊢
 (intros; try refine go_st ?_); refine go_r 0 0 (by decide) ?_; (refine sJ c16r0.eq_1 ?_; try with_reducible exact True.intro)
 intro b2 hb2 b4 hb4
 (intros; try refine go_st ?_)
 refine go_gx (gx_blk_at [_] _) ?_
 rintro h' ⟨G1, rfl, hg1, f2⟩
 (intros; try refine go_st ?_); refine go_r 9 14 (by decide) ?_; (refine sJ c16r1.eq_1 ?_; try with_reducible exact True.intro)
 refine ⟨_, ⟨_, [.int .i64 s.base, .slice A s.bytes.length c], rfl, rfl, rfl, fun j u hu => .g (f2 j u hu)⟩, ?_⟩
 (refine sI ?_; try with_reducible exact True.intro)
 refine (right_ok s _ G1 (SE.le hg1 hs0) _ _).mono ?_
 rintro r h' ⟨G3, L', rfl, hg3, u, bs, zc, rfl, hbs, hzc, rfl⟩
 (refine sI ?_; try with_reducible exact True.intro)
 have fin : ∀ (m : Int) (G6 : Nat → Option Obj) (L : List Kx.Item) (D : List Nat) (e : Env), m = chkI s l → e 4 = .pointer (some ⟨b4, 0, none⟩) → Kx.getB b4 L = some [.int .i64 m] → retQ o16 (fun v (_ : H) => v = .int .i64 (chkI s l)) .ret e ⟨G6, L, D⟩ := fun m G6 L D e hm e4 hL => by
   subst hm
   exact retQ_v (resV_c (b := b4) (v := .int .i64 (chkI s l)) e4 hL) rfl
 (intros; try refine go_st ?_); refine go_r 14 15 (by decide) ?_; (refine sJ c16r2.eq_1 ?_; try with_reducible exact True.intro)
 (intros; try refine go_st ?_); refine go_c ?_; (refine sI ?_; try with_reducible exact True.intro)
 refine gb (fun k1 => ?_) (fun k1 => ?_)
 · (intros; try refine go_st ?_); refine go_r 0 0 (by decide) ?_; (refine sJ c16r3.eq_1 ?_; try with_reducible exact True.intro)
   refine stX_blk [_] [] rfl (by simp) ⟨rfl, rfl⟩ ?_
   (refine sI ?_; try with_reducible exact True.intro)
   (intros; try refine go_st ?_)
   refine go_ret (fin 1 _ _ _ _ (by rw [chkI, if_neg fun h => by rw [h.1] at k1; cases k1]) ?_ (by simp [Kx.getB]))
   (refine sI ?_; try with_reducible exact True.intro)
 have k1 : rightB s = true := by simpa using k1
 have hbs := hbs k1
 subst hbs
 obtain ⟨rr, hsc⟩ := scan_spec s
 have hps := (all_pos k1 0).2
 have hchk : chkI s l = if chkE l (allE s) = true then 0 else 1 := by
   unfold chkI
   simp [k1]
 (repeat first | (with_reducible intro _) | refine go_skip ?_ | refine go_b ?_)
 (intros; try refine go_st ?_); refine go_r 16 17 (by decide) ?_; (refine sJ c16r4.eq_1 ?_; try with_reducible exact True.intro)
 intro b7 hb7
 refine stX_blk [] [_, _] rfl (by simp) ⟨rfl, rfl⟩ ?_
 (refine sI ?_; try with_reducible exact True.intro)
 (intros; try refine go_st ?_)
 refine go_gx (gx_slv_at [_] _ (by decide) hzc) ?_
 rintro h' ⟨G4, rfl, hg4, hv⟩
 have hgg : Gle G G4 := (hg1.trans hg3).trans hg4
 (intros; try refine go_st ?_); refine go_r 17 18 (by decide) ?_; (refine sJ c16r5.eq_1 ?_; try with_reducible exact True.intro)
 refine (entries_ok (scanB s) u G4 (hv.le (.refl _) fun _ _ h => BE.le hg4 h) hsc.ok (by omega) _ _).mono ?_
 rintro r h' ⟨G5, rfl, hg5, b, rfl, hit⟩
 (refine sI ?_; try with_reducible exact True.intro)
 (intros; try refine go_st ?_)
 refine go_gx (gx_ne (List.Sublist.refl _)) ?_
 rintro h' ⟨rfl, hne⟩
 refine go_rf (α := Nat) (fun k G' L' => ∃ t B cc, L' = [.blk b7 [.slice B (t : List En).length cc], .blk b4 [.int .i64 0]] ∧ (t.length ≤ cc ∧ cc ≤ maxLen ∧ SlA G' EnE 3 B t) ∧ ((k = 0 ∧ t = l) ∨ (0 < k ∧ chkE l (allE s) = subB t ((allE s).drop k)))) (fun ex k G' L' => ex = .ret ∧ (∃ v, L' = [.blk b7 [v], .blk b4 [.int .i64 1]]) ∧ chkE l (allE s) = false) (eE) F52.enters (noRegs_blk (noRegs_blk noRegs_nil))
   (fun i G G' L hg ⟨t, B, cc, h1, ⟨h2, h3, h4⟩, h5⟩ => ⟨t, B, cc, h1, ⟨h2, h3, h4.le hg fun _ _ h => h⟩, h5⟩) hit EA_size ⟨l, B, d, rfl, ⟨hd, hm, hB.le (hgg.trans hg5) fun _ _ h => h⟩, .inl ⟨rfl, rfl⟩⟩ ?_ ?_ ?_
 · rintro yl k i args G' L' hki hgl ⟨x, cs, hx, hbe, rfl⟩ ⟨t, B2, cc, rfl, ⟨h1, h2, h3⟩, h4⟩ _
   obtain ⟨rfl, hkl⟩ := range_at hki
   have hxe := allE_get rfl hx
   have hsub := subB_at (l := t) (n := 0) hxe
   have hck := chkE_at (l := l) (es := allE s) (e := entAt (scanB s) i x)
   have hpz := entAt_pos hsc hx
   rw [List.drop_zero] at hsub
   -- the entry ahead is this one, or none
   (refine sI ?_; try with_reducible exact True.intro)
   (intros; try refine go_st ?_); refine go_r 0 0 (by decide) ?_; (refine sJ c16r6.eq_1 ?_; try with_reducible exact True.intro)
   intro bb
   refine go_nil (rnd_a ?_)
   (repeat (with_reducible intro _)); try refine go_seq ?_
   refine go_blk ?_
   refine go_blk ?_
   (repeat (with_reducible intro _)); try refine go_seq ?_
   refine go_cut (fun e h => e 21 = .bool (decide (t[0]? = some (entAt (scanB s) i x))) ∧ e 4 = .pointer (some ⟨b4, 0, none⟩) ∧ e 7 = .pointer (some ⟨b7, 0, none⟩) ∧ h = ⟨G', [.reg 8 [.int .i64 x.base, .int .i64 (((allB ((scanB s).take i)).length : Nat) : Int), .int .i64 (((scanB s).take (i + 1)).foldl stM (-1))], .blk b7 [.slice B2 t.length cc], .blk b4 [.int .i64 0]], []⟩) ?_ ?_
   · cases ht : t[0]? with
     | none =>
       have hz : decide ((0 : Int) < (t.length : Int)) = false := decide_eq_false (by have := List.getElem?_eq_none_iff.1 ht; omega)
       (intros; try refine go_st ?_); refine go_q 22 32 (by decide) ?_; (refine sJ c16r7.eq_1 ?_; try with_reducible exact True.intro)
       refine ⟨_, ldN_blk (.tail _ (.head _)) rfl, ?_⟩
       have hd0 : decide ((none : Option En) = some (entAt (scanB s) i x)) = false := by simp
       (refine sJ @hz ?_; try with_reducible exact True.intro)
       (intros; try refine go_st ?_)
       exact go_l ⟨(eJ @hd0), eE, eE, rfl⟩
     | some y =>
       have hz : decide ((0 : Int) < (t.length : Int)) = true := decide_eq_true (by have := (List.getElem?_eq_some_iff.1 ht).1; omega)
       (intros; try refine go_st ?_); refine go_q 22 32 (by decide) ?_; (refine sJ c16r7.eq_1 ?_; try with_reducible exact True.intro)
       refine ⟨_, ldN_blk (.tail _ (.head _)) rfl, ?_⟩
       (refine sJ @hz ?_; try with_reducible exact True.intro)
       refine ⟨_, ldN_blk (.tail _ (.head _)) rfl, ?_⟩
       (refine sI ?_; try with_reducible exact True.intro)
       refine h3.y_ld ht rfl rfl ?_
       rintro a1 ha1 cs hcs
       cases (show cs = cellE y from hcs)
       unfold cellE
       have hq : (decide (y.off = x.base) && (decide (y.pos = (((allB ((scanB s).take i)).length : Nat) : Int)) && decide (y.stamp = ((scanB s).take (i + 1)).foldl stM (-1)))) = decide (some y = some (entAt (scanB s) i x)) := by
         rw [Bool.eq_iff_iff]
         cases y
         simp [entAt]
       (refine sI ?_; try with_reducible exact True.intro)
       (intros; try refine go_st ?_)
       exact go_l ⟨(eJ @hq), eE, eE, rfl⟩
   rintro e h ⟨e21, e4, e7, rfl⟩
   refine go_keep [4, 7, 21] ?_
   (refine sJ3 @e4 @e7 @e21 ?_; try with_reducible exact True.intro)
   (intros; try refine go_st ?_); refine go_c ?_; (refine sI ?_; try with_reducible exact True.intro)
   refine gb (fun k3 => ?_) (fun k3 => ?_)
   · have k3 := of_decide_eq_true k3
     have htl := (List.getElem?_eq_some_iff.1 k3).1
     (intros; try refine go_st ?_); refine go_r 32 34 (by decide) ?_; (refine sJ c16r8.eq_1 ?_; try with_reducible exact True.intro)
     refine ⟨_, ldN_blk (.tail _ (.head _)) rfl, ?_⟩
     rw [if_pos k3] at hsub
     have hcut := h3.cut (l := 1) (n := t.length) (B := if cc = 1 then B2 else B2.map (·.add (1 * 3))) (Nat.le_refl _) fun hlt => by rw [if_neg (by omega)]
     rw [List.take_length] at hcut
     have hdl : (t.drop 1).length = t.length - 1 := List.length_drop
     (refine sJ @slY_i ?_; try with_reducible exact True.intro)
     refine ⟨by omega, ?_⟩
     (refine sJ @Int.toNat_one ?_; try with_reducible exact True.intro)
     refine stX_blk [_] [_] rfl (by simp) ⟨rfl, rfl⟩ ?_
     (refine sI ?_; try with_reducible exact True.intro)
     (repeat first | (with_reducible intro _) | refine go_skip ?_ | refine go_b ?_)
     refine go_nil (rnd_n _ (.cons _ (List.Sublist.refl _)) (noRegs_blk (noRegs_blk noRegs_nil)) ⟨t.drop 1, _, cc - 1, by rw [hdl], ⟨by omega, by omega, hcut⟩, .inr ⟨by omega, ?_⟩⟩)
     rcases h4 with ⟨rfl, rfl⟩ | ⟨h4, h5⟩
     · rw [hck hxe, if_pos k3]
     · rw [h5, hsub]
   · have k3 := of_decide_eq_false k3
     rw [if_neg k3] at hsub
     (intros; try refine go_st ?_); refine go_r 36 38 (by decide) ?_; (refine sJ c16r9.eq_1 ?_; try with_reducible exact True.intro)
     (intros; try refine go_st ?_); refine go_c ?_; (refine sI ?_; try with_reducible exact True.intro)
     refine gb (fun k6 => ?_) (fun k6 => ?_)
     · have k6 := hpz.1 (of_decide_eq_true k6)
       subst k6
       have h4 : t = l := by
         rcases h4 with h4 | h4
         · exact h4.2
         · omega
       subst h4
       have h5 : chkE t (allE s) = false := by rw [hck hxe, if_neg k3]
       (intros; try refine go_st ?_); refine go_r 0 0 (by decide) ?_; (refine sJ c16r10.eq_1 ?_; try with_reducible exact True.intro)
       refine stX_blk [_, _] [] rfl (by simp) ⟨rfl, rfl⟩ ?_
       (refine sI ?_; try with_reducible exact True.intro)
       (intros; try refine go_st ?_)
       exact go_ret (rnd_r _ (.cons _ (List.Sublist.refl _)) (noRegs_blk (noRegs_blk noRegs_nil)) ⟨rfl, ⟨_, rfl⟩, h5⟩)
     · have k6 : ¬ i = 0 := fun h => absurd (hpz.2 h) (of_decide_eq_false k6)
       (repeat first | (with_reducible intro _) | refine go_skip ?_ | refine go_b ?_)
       refine go_nil (rnd_n _ (.cons _ (List.Sublist.refl _)) (noRegs_blk (noRegs_blk noRegs_nil)) ⟨t, _, cc, rfl, ⟨h1, h2, h3⟩, .inr ⟨by omega, ?_⟩⟩)
       rcases h4 with ⟨h4, -⟩ | ⟨h4, h5⟩
       · omega
       · rw [h5, hsub]
 · rintro G' L' dd hgl ⟨t, B2, cc, rfl, ⟨h1, h2, h3⟩, h4⟩ _
   rw [List.length_range, allE_drop] at h4
   have h5 : chkI s l = if 0 < t.length then 1 else 0 := by
     rw [hchk]
     have h6 : chkE l (allE s) = t.isEmpty := by
       rcases h4 with ⟨h4, rfl⟩ | ⟨h4, h5⟩
       · have : allE s = [] := List.eq_nil_of_length_eq_zero (by rw [allE_len]; exact h4)
         rw [this]
         cases t <;> rfl
       · rw [h5]
         cases t <;> rfl
     rw [h6]
     cases t <;> simp
   (intros; try refine go_st ?_); refine go_r 38 40 (by decide) ?_; (refine sJ c16r11.eq_1 ?_; try with_reducible exact True.intro)
   refine ⟨_, ldN_blk (.head _) rfl, ?_⟩
   (refine sI ?_; try with_reducible exact True.intro)
   (intros; try refine go_st ?_); refine go_c ?_; (refine sI ?_; try with_reducible exact True.intro)
   refine gb (fun k6 => ?_) (fun k6 => ?_)
   · have k6 := of_decide_eq_true k6
     rw [if_pos (by omega)] at h5
     (intros; try refine go_st ?_); refine go_r 0 0 (by decide) ?_; (refine sJ c16r12.eq_1 ?_; try with_reducible exact True.intro)
     refine stX_blk [_] [] rfl (by simp) ⟨rfl, rfl⟩ ?_
     (refine sI ?_; try with_reducible exact True.intro)
     (intros; try refine go_st ?_)
     refine go_ret (fin 1 _ _ _ _ h5.symm ?_ (by simp [Kx.getB, hne]))
     (refine sI ?_; try with_reducible exact True.intro)
   · have k6 := of_decide_eq_false k6
     rw [if_neg (by omega)] at h5
     (repeat first | (with_reducible intro _) | refine go_skip ?_ | refine go_b ?_)
     (intros; try refine go_st ?_); refine go_r 0 0 (by decide) ?_; (refine sJ c16r13.eq_1 ?_; try with_reducible exact True.intro)
     refine stX_blk [_] [] rfl (by simp) ⟨rfl, rfl⟩ ?_
     (refine sI ?_; try with_reducible exact True.intro)
     (intros; try refine go_st ?_)
     refine go_ret (fin 0 _ _ _ _ h5.symm ?_ (by simp [Kx.getB, hne]))
     (refine sI ?_; try with_reducible exact True.intro)
 · rintro ex i G' L' dd _ _ ⟨rfl, ⟨v, rfl⟩, h5⟩ _
   refine fin 1 _ _ _ _ (by rw [hchk, h5]; rfl) ?_ ?_
   · (refine sI ?_; try with_reducible exact True.intro)
   · simp [Kx.getB, hne]
theorem F40 : Fun Try.prog 40 6 v40 c40 o40 := Fun.mk' Try.func40 Try.ntmps40 (by kernel_rfl) (by kernel_rfl) s40 q40
theorem F55 : Fun Try.prog 55 27 v55 c55 o55 := Fun.mk' Try.func55 Try.ntmps55 (by kernel_rfl) (by kernel_rfl) s55 q55
theorem F22 : Fun Try.prog 22 29 v22 c22 o22 := Fun.mk' Try.func22 Try.ntmps22 (by kernel_rfl) (by kernel_rfl) s22 q22
theorem F24 : Fun Try.prog 24 37 v24 c24 o24 := Fun.mk' Try.func24 Try.ntmps24 (by kernel_rfl) (by kernel_rfl) s24 q24
def FA (bs : List Batch) (j : Nat) (G : Nat → Option Obj) (k : Nat) (args : Array Value) : Prop := ∃ x cs, bs[j + k]? = some x ∧ BE G x cs ∧ args = #[.agg cs.toArray]
def mu5 (n : Nat) : Value → Nat
 | .int _ p => n - p.toNat
 | _ => n + 1
theorem from1_iter (s : Sg) (A : Option Addr) (c b2 b3 j : Nat) (G0 : Nat → Option Obj) (hl : SB G0 (.slice A s.bytes.length c) s.bytes) (hr : rightB s = true) (hj : j ≤ (scanB s).length) (h1 : cellG G0 ⟨b2, 1, none⟩ = some (.slice A s.bytes.length c)) :
   IterC Try.prog 55 #[.pointer (some ⟨b3, 0, none⟩), .pointer (some ⟨b2, 0, none⟩)] (List.range ((scanB s).length - j)) (FA (scanB s) j) G0 [.blk b3 [.int .i64 (((allB ((scanB s).take j)).length : Nat) : Int)]] (fun C => ∃ p, C = [.blk b3 [.int .i64 p]]) := by
 obtain ⟨rr, hsc⟩ := scan_spec s
 have hps := all_pos hr
 have hri := right_is hr
 have hb : s.bytes.length ≤ 1000000 := by have := (rightB_iff.1 hr).2.1; omega
 generalize scanB s = bs at hsc hps hri hj
 intro yl I Ix G L hG hn hI hIx hmo hi0 hy L2 D
 have hargs : (#[.func (.yield yl) #[] #[]] ++ #[.pointer (some ⟨b3, 0, none⟩), .pointer (some ⟨b2, 0, none⟩)] : Array Value) = #[.func (.yield yl) #[] #[], .pointer (some ⟨b3, 0, none⟩), .pointer (some ⟨b2, 0, none⟩)] := rfl
 have hnL : ∀ {L : List Kx.Item} {p : Int}, NoRegs L → NoRegs (L ++ [.blk b3 [.int .i64 p]]) := fun h s cs hm => by
   rcases List.mem_append.1 hm with hm | hm
   · exact h s cs hm
   · simp at hm
 rw [hargs, List.length_range, ← List.append_assoc]
 refine (F55.calls (R := fun _ h => Gle G h.G ∧ ∃ L' p, h.L = L' ++ [.blk b3 [.int .i64 p]] ∧ NoRegs L' ∧ (I (bs.length - j) h.G L' ∨ ∃ i, i < bs.length - j ∧ Ix i h.G L')) (by simp) (hnL hn) (go_of ?_) L2 D).mono ?_
 rotate_left
 · rintro v h' ⟨G', L', rfl, -, hgg, L1, p, rfl, hn', hr⟩
   exact ⟨G', L1, [.blk b3 [.int .i64 p]], by simp, ⟨p, rfl⟩, noRegs_blk noRegs_nil, hgg, hn', hr⟩
 have e1 := cellG_le hG h1
 have hlG := SB.le hl hG
 unfold c55
 refine go_scp (go_seq (go_lab (go_blk (go_loop (fun e h => ∃ (t : Nat) (G' : Nat → Option Obj) (L' Lh : List Kx.Item), (t ≤ bs.length - j ∧ Gle G G' ∧ NoRegs L' ∧ I t G' L') ∧ e 0 = .func (.yield yl) #[] #[] ∧ e 1 = .pointer (some ⟨b3, 0, none⟩) ∧ e 2 = .pointer (some ⟨b2, 0, none⟩) ∧ h = ⟨G', Lh, []⟩ ∧ (L' ++ [Kx.Item.blk b3 [.int .i64 (((allB (bs.take (j + t))).length : Nat) : Int)]]).Sublist Lh ∧ (e 5 = undef ∨ e 5 = .int .i64 (((allB (bs.take (j + t))).length : Nat) : Int))) (fun e h => mu5 s.bytes.length (e 5)) ?_ ?_))))
 · exact ⟨0, G, L, _, ⟨Nat.zero_le _, .refl G, hn, hi0⟩, eE, eE, eE, rfl, List.Sublist.refl _, .inl (by rfl)⟩
 rintro e h ⟨t, G', L', Lh, ⟨ht, hgg, hn', hI'⟩, e0, e1', e2, rfl, hsub, e5⟩
 have hmu : ∀ p : Nat, (allB (bs.take (j + t))).length < p → p ≤ s.bytes.length → mu5 s.bytes.length (.int .i64 (p : Int)) < mu5 s.bytes.length (e 5) := fun p h1 h2 => by
   rcases e5 with e5 | e5 <;> rw [e5]
   · show s.bytes.length - (p : Int).toNat < s.bytes.length + 1
     omega
   · show s.bytes.length - (p : Int).toNat < s.bytes.length - ((((allB (bs.take (j + t))).length : Nat) : Int)).toNat
     omega
 refine go_keep [0, 1, 2] ?_
 (refine sJ3 @e0 @e1' @e2 ?_; try with_reducible exact True.intro)
 (repeat (with_reducible intro _)); try refine go_seq ?_
 refine go_ghost (ghost_sub hsub) ?_
 have hrm := rmR_no (s := 4) (hnL (p := (((allB (bs.take (j + t))).length : Nat) : Int)) hn')
 have e1g := cellG_le hgg e1
 have hget := BGet_ok s.bytes (((allB (bs.take (j + t))).length : Nat) : Int) _ G' (SB.le hlG hgg) hb
 unfold GetBR at hget
 have htk := (hps (j + t)).1
 (intros; try refine go_st ?_); refine go_r 7 11 (by decide) ?_; (refine sJ c55r0.eq_1 ?_; try with_reducible exact True.intro)
 refine ⟨_, ldN_blk (List.mem_append_right _ (.head _)) rfl, ?_⟩
 (refine sI ?_; try with_reducible exact True.intro)
 refine ⟨_, ⟨_, rfl, .g e1g⟩, ?_⟩
 (refine sI ?_; try with_reducible exact True.intro)
 (intros; try refine go_st ?_); refine go_c ?_; (refine sI ?_; try with_reducible exact True.intro)
 refine gb (fun k1 => ?_) (fun k1 => ?_)
 · have k1 := of_decide_eq_true k1
   have htl : t < bs.length - j := by
     rcases Nat.lt_or_ge t (bs.length - j) with h | h
     · exact h
     · exfalso
       rw [hri, List.take_of_length_le (by omega)] at k1
       omega
   obtain ⟨x, hx⟩ : ∃ x, bs[j + t]? = some x := ⟨bs[j + t], List.getElem?_eq_getElem (by omega)⟩
   obtain ⟨a1, a2, a3, a4⟩ := hsc.at_ hx
   have hle := (hps (j + (t + 1))).1
   have hlt : (allB (bs.take (j + t))).length < (allB (bs.take (j + t + 1))).length := by
     have := bytesB_pos x
     rw [allB_take hx, List.length_append]
     omega
   have hjt : (allB (bs.take (j + (t + 1)))).length = (allB (bs.take (j + t + 1))).length := rfl
   have hle2 : (allB (bs.take (j + t + 1))).length ≤ s.bytes.length := by
     conv => rhs; rw [hri]
     exact allB_take_le _ _
   (repeat first | (with_reducible intro _) | refine go_skip ?_ | refine go_b ?_)
   (intros; try refine go_st ?_); refine go_r 12 20 (by decide) ?_; (refine sJ c55r1.eq_1 ?_; try with_reducible exact True.intro)
   refine ⟨_, ⟨_, rfl, .g e1g⟩, ?_⟩
   (refine sI ?_; try with_reducible exact True.intro)
   refine ⟨_, ldN_blk (List.mem_append_right _ (.head _)) rfl, ?_⟩
   (refine sI ?_; try with_reducible exact True.intro)
   refine (hget _ _).mono ?_
   rintro v h' ⟨G1, rfl, hg1, cs, rfl, hbe⟩
   rw [a1] at hbe ⊢
   dsimp only at hbe ⊢
   have hbe0 := hbe
   obtain ⟨B, d, rfl, -⟩ := hbe
   unfold cellH at hbe0 ⊢
   have hz : decide ((0 : Int) ≠ 0) = false := by decide
   (refine sJ @hrm ?_; try with_reducible exact True.intro)
   (intros; try refine go_st ?_); refine go_r 20 21 (by decide) ?_; (refine sJ2 c55r2.eq_1 @hz ?_; try with_reducible exact True.intro)
   (intros; try refine go_st ?_); refine go_c ?_; (refine sI ?_; try with_reducible exact True.intro)
   (repeat first | (with_reducible intro _) | refine go_skip ?_ | refine go_b ?_)
   (intros; try refine go_st ?_); refine go_r 22 25 (by decide) ?_; (refine sJ c55r3.eq_1 ?_; try with_reducible exact True.intro)
   refine .inr ⟨yl, rfl, ?_⟩
   refine YieldH.ghost (ghost_perm (L' := L' ++ [Kx.Item.blk b3 [.int .i64 (((allB (bs.take (j + t))).length : Nat) : Int)], .reg 4 [.int .i64 x.base, .int .i64 x.last, .int .i64 x.src, .int .i64 x.epoch, .int .i64 x.pid, .int .i64 x.gen, .int .i64 x.seq, .bool x.txn, .int .i64 x.ctl, .slice B x.recs.length d]]) (by simpa using List.perm_append_comm (l₁ := [.reg 4 [.int .i64 x.base, .int .i64 x.last, .int .i64 x.src, .int .i64 x.epoch, .int .i64 x.pid, .int .i64 x.gen, .int .i64 x.seq, .bool x.txn, .int .i64 x.ctl, .slice B x.recs.length d]]) (l₂ := L' ++ [Kx.Item.blk b3 [.int .i64 (((allB (bs.take (j + t))).length : Nat) : Int)]]))) ?_
   refine (hy t t _ G1 L' (List.getElem?_range htl) (hgg.trans hg1) ⟨x, _, hx, hbe0, rfl⟩ (hmo _ _ _ _ hg1 hI') _ []).mono ?_
   rintro v h' ⟨G2, L3, rfl, hg2, hn2, hr⟩
   rcases hr with ⟨rfl, hr⟩ | ⟨rfl, hr⟩
   · (refine sI ?_; try with_reducible exact True.intro)
     (intros; try refine go_st ?_); refine go_c ?_; (refine sI ?_; try with_reducible exact True.intro)
     (repeat first | (with_reducible intro _) | refine go_skip ?_ | refine go_b ?_)
     (intros; try refine go_st ?_); refine go_r 26 27 (by decide) ?_; (refine sJ c55r4.eq_1 ?_; try with_reducible exact True.intro)
     refine stX_blk L3 [_] rfl (by simp) ⟨rfl, rfl⟩ ?_
     (refine sI ?_; try with_reducible exact True.intro)
     (intros; try refine go_st ?_)
     refine go_l ⟨⟨t + 1, G2, L3, _, ⟨by omega, (hgg.trans hg1).trans hg2, hn2, hr⟩, eE, eE, eE, rfl, ?_, .inr ((eJ @hjt))⟩, ?_⟩
     · exact List.Sublist.append (List.Sublist.refl _) (.cons_cons _ (List.nil_sublist _))
     · (refine sI ?_; try with_reducible exact True.intro)
       exact hmu _ hlt hle2
   · (refine sI ?_; try with_reducible exact True.intro)
     (intros; try refine go_st ?_); refine go_c ?_; (refine sI ?_; try with_reducible exact True.intro)
     (intros; try refine go_st ?_)
     exact go_ret (retQ_o (out := []) _ rfl (List.Sublist.append (List.Sublist.refl _) (.cons_cons _ (List.nil_sublist _))) (hnL hn2) ⟨(hgg.trans hg1).trans hg2, L3, _, rfl, hn2, .inr ⟨t, htl, hr⟩⟩)
 · have k1 := of_decide_eq_false k1
   have htl : t = bs.length - j := by
     rcases Nat.lt_or_ge t (bs.length - j) with h | h
     · exfalso
       obtain ⟨x, hx⟩ : ∃ x, bs[j + t]? = some x := ⟨bs[j + t], List.getElem?_eq_getElem (by omega)⟩
       have hlt : (allB (bs.take (j + t))).length < (allB (bs.take (j + t + 1))).length := by
         have := bytesB_pos x
         rw [allB_take hx, List.length_append]
         omega
       have hle2 : (allB (bs.take (j + t + 1))).length ≤ s.bytes.length := by
         conv => rhs; rw [hri]
         exact allB_take_le _ _
       omega
     · omega
   subst htl
   refine go_exit ?_
   (refine sI ?_; try with_reducible exact True.intro)
   refine go_n (go_nil ?_)
   exact ⟨[], rfl, _, ghost_sub (List.Sublist.refl _), hnL hn', hgg, L', _, rfl, hn', .inl hI'⟩
theorem fromI_ok (s : Sg) (cs : List Value) (j : Nat) (G : Nat → Option Obj) (hs : SE G s cs) (hr : rightB s = true) (hj : j ≤ (scanB s).length) :
   FnO Try.prog 40 #[.agg cs.toArray, .int .i64 (((allB ((scanB s).take j)).length : Nat) : Int)] G [] (fun G' L' r => ∃ b2 b3, r = .func (.func 55) #[] #[.pointer (some ⟨b3, 0, none⟩), .pointer (some ⟨b2, 0, none⟩)] ∧ L' = [.blk b3 [.int .i64 (((allB ((scanB s).take j)).length : Nat) : Int)]] ∧
     IterC Try.prog 55 #[.pointer (some ⟨b3, 0, none⟩), .pointer (some ⟨b2, 0, none⟩)] (List.range ((scanB s).length - j)) (FA (scanB s) j) G' [.blk b3 [.int .i64 (((allB ((scanB s).take j)).length : Nat) : Int)]] (fun C => ∃ p, C = [.blk b3 [.int .i64 p]])) := by
 obtain ⟨A, c, rfl, hl, hi⟩ := hs
 refine F40.fnO (by simp) noRegs_nil (go_of ?_)
 unfold c40 cellS
 (intros; try refine go_st ?_); refine go_r 0 0 (by decide) ?_; (refine sJ c40r0.eq_1 ?_; try with_reducible exact True.intro)
 intro b2 hb2 b3 hb3
 (intros; try refine go_st ?_)
 refine go_gx (gx_blk_at [_] _) ?_
 rintro h' ⟨G1, rfl, hg1, f2⟩
 have e1 := f2 1 _ rfl
 rw [add_off] at e1
 (intros; try refine go_st ?_); refine go_r 5 6 (by decide) ?_; (refine sJ c40r1.eq_1 ?_; try with_reducible exact True.intro)
 (intros; try refine go_st ?_)
 refine go_ret (retQ_o _ rfl (List.Sublist.refl _) (noRegs_blk noRegs_nil) ?_)
 exact ⟨b2, b3, rfl, rfl, from1_iter s A c b2 b3 j G1 (SB.le hl hg1) hr hj e1⟩
theorem noneB_BE (G : Nat → Option Obj) : BE G noneB [.int .i64 0, .int .i64 0, .int .i64 0, .int .i64 0, .int .i64 0, .int .i64 0, .int .i64 0, .bool false, .int .i64 0, .slice none 0 0] := ⟨none, 0, rfl, ⟨Nat.le_refl _, Nat.zero_le _, fun i x hx => by simp [noneB] at hx⟩, by decide, by decide, by decide, by decide, by decide, by decide, by decide, by decide⟩
theorem FA_size {bs : List Batch} {j : Nat} (G : Nat → Option Obj) (x : Nat) (args : Array Value) (h : FA bs j G x args) : args.size = [22].length := by
 obtain ⟨y, _, _, _, rfl⟩ := h
 rfl
def FindR (q : Batch × Int) (G' : Nat → Option Obj) (r : Value) : Prop := ∃ cs, r = .tuple #[.agg cs.toArray, .int .i64 q.2] ∧ BE G' q.1 cs
theorem FindI_ok (s : Sg) (l : List En) (off : Int) (cs : List Value) (v : Value) (G : Nat → Option Obj) (hs : SE G s cs) (hv : SlV G EnE 3 v l) : FnD Try.prog 22 #[.agg cs.toArray, v, .int .i64 off] G (FindR (findS s l off)) := by
 have hs0 := hs
 obtain ⟨A, c, rfl, hl, hi⟩ := hs
 refine F22.fnD (by simp) (go_of ?_)
 unfold c22
 unfold cellS at hs0 ⊢
 (intros; try refine go_st ?_); refine go_r 0 0 (by decide) ?_; (refine sJ c22r0.eq_1 ?_; try with_reducible exact True.intro)
 intro b3 hb3 b5 hb5 b6 hb6 b7 hb7
 (intros; try refine go_st ?_)
 refine go_gx (gx_blk_at [_, _, _] _) ?_
 rintro h' ⟨G1, rfl, hg1, f3⟩
 refine go_gx (gx_blk_at [_, _] _) ?_
 rintro h' ⟨G2, rfl, hg2, f5⟩
 refine go_gx (gx_ne (List.Sublist.refl _)) ?_
 rintro h' ⟨rfl, hne⟩
 have e5 := f5 0 _ rfl
 rw [add_off] at e5
 have hgg := hg1.trans hg2
 have hs2 := SE.le hgg hs0
 have hv2 := hv.le hgg fun _ _ h => h
 have fin : ∀ (q : Batch × Int) (G6 : Nat → Option Obj) (cs : List Value) (T : List Kx.Item) (D : List Nat) (e : Env), q = findS s l off → e 6 = .pointer (some ⟨b6, 0, none⟩) → e 7 = .pointer (some ⟨b7, 0, none⟩) → BE G6 q.1 cs → retQ o22 (fun v (h : H) => FindR (findS s l off) h.G v) .ret e ⟨G6, .blk b7 [.int .i64 q.2] :: .blk b6 cs :: T, D⟩ := fun q G6 cs T D e hq e6 e7 hbe => by
   subst hq
   refine retQ_v (out := [.agg cs.toArray, .int .i64 (findS s l off).2]) ?_ ⟨cs, rfl, hbe⟩
   obtain ⟨B, d, rfl, -⟩ := hbe
   simp [o22, resV, Kx.getB, blkO, ldC, e6, e7, hne, cellH]
 (intros; try refine go_st ?_); refine go_r 10 13 (by decide) ?_; (refine sJ c22r1.eq_1 ?_; try with_reducible exact True.intro)
 refine ⟨_, ⟨_, [.int .i64 s.base, .slice A s.bytes.length c], rfl, rfl, rfl, fun j u hu => .g (cellG_le hg2 (f3 j u hu))⟩, ?_⟩
 (refine sI ?_; try with_reducible exact True.intro)
 have hck := CheckI_ok s l _ v G2 hs2 hv2
 refine (hck _ _).mono ?_; rintro _ _ ⟨rfl, rfl⟩; (refine sI ?_; try with_reducible exact True.intro)
 (repeat first | (with_reducible intro _) | refine go_skip ?_ | refine go_b ?_)
 (intros; try refine go_st ?_); refine go_r 13 14 (by decide) ?_; (refine sJ c22r2.eq_1 ?_; try with_reducible exact True.intro)
 (intros; try refine go_st ?_); refine go_c ?_; (refine sI ?_; try with_reducible exact True.intro)
 refine gb (fun k1 => ?_) (fun k1 => ?_)
 · have k1 := of_decide_eq_true k1
   (intros; try refine go_st ?_); refine go_r 15 17 (by decide) ?_; (refine sJ c22r3.eq_1 ?_; try with_reducible exact True.intro)
   refine stX_blk [_] [] rfl (by simp) ⟨rfl, rfl⟩ ?_
   (refine sI ?_; try with_reducible exact True.intro)
   refine stX_blk [] [_] rfl (by simp) ⟨rfl, rfl⟩ ?_
   (refine sI ?_; try with_reducible exact True.intro)
   (intros; try refine go_st ?_)
   refine go_ret (fin (noneB, chkI s l) _ _ _ _ _ (by rw [findS, if_neg k1]) ?_ ?_ (noneB_BE _))
   · (refine sI ?_; try with_reducible exact True.intro)
   · (refine sI ?_; try with_reducible exact True.intro)
 have k1 : chkI s l = 0 := by simpa using k1
 obtain ⟨hr, hsub, -⟩ := chkI_0 k1
 obtain ⟨j, hj, hlj, hall⟩ := floor_at off hsub
 have hfs := find_from k1 hall
 have hfl := Floor_ok l off v G2 hv2
 have hfr := fromI_ok s _ j G2 hs2 hr hj
 rw [hlj] at hfl
 (repeat first | (with_reducible intro _) | refine go_skip ?_ | refine go_b ?_)
 (intros; try refine go_st ?_); refine go_x _ (List.Sublist.refl _) (by decide) ?_; (refine sJ c22r4.eq_1 ?_; try with_reducible exact True.intro)
 refine ⟨_, ⟨_, [.int .i64 s.base, .slice A s.bytes.length c], rfl, rfl, rfl, fun j u hu => .g (cellG_le hg2 (f3 j u hu))⟩, ?_⟩
 (refine sI ?_; try with_reducible exact True.intro)
 refine ⟨_, ⟨_, rfl, .g e5⟩, ?_⟩
 (refine sI ?_; try with_reducible exact True.intro)
 refine (hfl _ _).mono ?_; rintro _ _ ⟨rfl, rfl⟩; (refine sI ?_; try with_reducible exact True.intro)
 refine (hfr _ _).mono ?_
 rintro r h' ⟨G3, L', rfl, hg3, bq, bp, rfl, rfl, hit⟩
 (refine sI ?_; try with_reducible exact True.intro)
 refine ⟨grow_L hg3 (.cons _ (List.Sublist.refl _)), ?_⟩
 have e5' := cellG_le hg3 e5
 (intros; try refine go_st ?_)
 refine go_ghost (ghost_perm (L' := [.blk b7 [.int .i64 0], .blk b6 [.int .i64 0, .int .i64 0, .int .i64 0, .int .i64 0, .int .i64 0, .int .i64 0, .int .i64 0, .bool false, .int .i64 0, .slice none 0 0]] ++ [.blk bp [.int .i64 (((allB ((scanB s).take j)).length : Nat) : Int)]]) (List.perm_append_comm (l₁ := [_]))) ?_
 refine go_rfC (α := Nat) (fun k G' L' => L' = [.blk b7 [.int .i64 0], .blk b6 [.int .i64 0, .int .i64 0, .int .i64 0, .int .i64 0, .int .i64 0, .int .i64 0, .int .i64 0, .bool false, .int .i64 0, .slice none 0 0]] ∧ findS s l off = findL ((scanB s).drop (j + k)) off) (fun ex k G' L' => ex = .ret ∧ ∃ x cs, L' = [.blk b7 [.int .i64 0], .blk b6 cs] ∧ BE G' x cs ∧ (x, 0) = findS s l off) rfl (eE) F55.enters (noRegs_blk (noRegs_blk noRegs_nil))
   (fun i G G' L hg h => h) hit FA_size ⟨rfl, hfs⟩ ?_ ?_ ?_
 · rintro yl k i args G' L' hki hgl ⟨x, cs, hx, hbe, rfl⟩ ⟨rfl, hst⟩ _
   obtain ⟨rfl, hkl⟩ := range_at hki
   have hat := findL_at (off := off) hx
   have e5'' := cellG_le hgl e5'
   have hbe0 := hbe
   obtain ⟨B, d, rfl, -⟩ := hbe
   unfold cellH at hbe0 ⊢
   (refine sI ?_; try with_reducible exact True.intro)
   (intros; try refine go_st ?_); refine go_r 0 0 (by decide) ?_; (refine sJ c22r5.eq_1 ?_; try with_reducible exact True.intro)
   intro bb
   refine go_nil (rnd_a ?_)
   (intros; try refine go_st ?_); refine go_r 24 26 (by decide) ?_; (refine sJ c22r6.eq_1 ?_; try with_reducible exact True.intro)
   refine ⟨_, ⟨_, rfl, .g e5''⟩, ?_⟩
   (refine sI ?_; try with_reducible exact True.intro)
   (intros; try refine go_st ?_); refine go_c ?_; (refine sI ?_; try with_reducible exact True.intro)
   refine gb (fun k2 => ?_) (fun k2 => ?_)
   · have k2 := of_decide_eq_true k2
     rw [if_pos k2] at hat
     (intros; try refine go_st ?_); refine go_r 27 28 (by decide) ?_; (refine sJ c22r7.eq_1 ?_; try with_reducible exact True.intro)
     refine stX_blk [_, _] [] rfl (by simp) ⟨rfl, rfl⟩ ?_
     (refine sI ?_; try with_reducible exact True.intro)
     refine stX_blk [_] [_] rfl (by simp) ⟨rfl, rfl⟩ ?_
     (refine sI ?_; try with_reducible exact True.intro)
     (intros; try refine go_st ?_)
     exact go_ret (rnd_r _ (.cons _ (List.Sublist.refl _)) (noRegs_blk (noRegs_blk noRegs_nil)) ⟨rfl, x, _, rfl, hbe0, by rw [hst, hat]⟩)
   · have k2 := of_decide_eq_false k2
     rw [if_neg k2] at hat
     (repeat first | (with_reducible intro _) | refine go_skip ?_ | refine go_b ?_)
     exact go_nil (rnd_n _ (.cons _ (List.Sublist.refl _)) (noRegs_blk (noRegs_blk noRegs_nil)) ⟨rfl, by rw [hst, hat]; rfl⟩)
 · rintro G' L' C' dd hgl ⟨rfl, hst⟩ _ ⟨p, rfl⟩
   rw [List.length_range, show j + ((scanB s).length - j) = (scanB s).length by omega, List.drop_length, findL_nil] at hst
   (intros; try refine go_st ?_)
   refine go_ghost (ghost_sub (List.sublist_append_left _ _)) ?_
   (intros; try refine go_st ?_); refine go_r 28 29 (by decide) ?_; (refine sJ c22r8.eq_1 ?_; try with_reducible exact True.intro)
   refine stX_blk [_] [] rfl (by simp) ⟨rfl, rfl⟩ ?_
   (refine sI ?_; try with_reducible exact True.intro)
   refine stX_blk [] [_] rfl (by simp) ⟨rfl, rfl⟩ ?_
   (refine sI ?_; try with_reducible exact True.intro)
   (intros; try refine go_st ?_)
   refine go_ret (fin (noneB, 90) _ _ _ _ _ hst.symm ?_ ?_ (noneB_BE _))
   · (refine sI ?_; try with_reducible exact True.intro)
   · (refine sI ?_; try with_reducible exact True.intro)
 · rintro ex i G' L' C' dd _ _ ⟨rfl, x, cs, rfl, hbe, hq⟩ _ ⟨p, rfl⟩
   refine fin (x, 0) _ _ _ _ _ hq ?_ ?_ hbe
   · (refine sI ?_; try with_reducible exact True.intro)
   · (refine sI ?_; try with_reducible exact True.intro)
theorem SinceI_ok (s : Sg) (l : List En) (stamp : Int) (cs : List Value) (v : Value) (G : Nat → Option Obj) (hs : SE G s cs) (hv : SlV G EnE 3 v l) : FnS Try.prog 24 #[.agg cs.toArray, v, .int .i64 stamp] G (.tuple #[.int .i64 (sinceS s l stamp).1, .int .i64 (sinceS s l stamp).2]) := by
 have hs0 := hs
 obtain ⟨A, c, rfl, hl, hi⟩ := hs
 refine F24.fnS (by simp) (go_of ?_)
 unfold c24
 unfold cellS at hs0 ⊢
 (intros; try refine go_st ?_); refine go_r 0 0 (by decide) ?_; (refine sJ c24r0.eq_1 ?_; try with_reducible exact True.intro)
 intro b3 hb3 b5 hb5 b6 hb6 b7 hb7
 (intros; try refine go_st ?_)
 refine go_gx (gx_blk_at [_, _, _] _) ?_
 rintro h' ⟨G1, rfl, hg1, f3⟩
 refine go_gx (gx_blk_at [_, _] _) ?_
 rintro h' ⟨G2, rfl, hg2, f5⟩
 refine go_gx (gx_ne (List.Sublist.refl _)) ?_
 rintro h' ⟨rfl, hne⟩
 have e5 := f5 0 _ rfl
 rw [add_off] at e5
 have hgg := hg1.trans hg2
 have hs2 := SE.le hgg hs0
 have hv2 := hv.le hgg fun _ _ h => h
 have fin : ∀ (q : Int × Int) (G6 : Nat → Option Obj) (T : List Kx.Item) (D : List Nat) (e : Env), q = sinceS s l stamp → e 6 = .pointer (some ⟨b6, 0, none⟩) → e 7 = .pointer (some ⟨b7, 0, none⟩) → retQ o24 (fun v (_ : H) => v = .tuple #[.int .i64 (sinceS s l stamp).1, .int .i64 (sinceS s l stamp).2]) .ret e ⟨G6, .blk b7 [.int .i64 q.2] :: .blk b6 [.int .i64 q.1] :: T, D⟩ := fun q G6 T D e hq e6 e7 => by
   subst hq
   refine retQ_v (out := [.int .i64 (sinceS s l stamp).1, .int .i64 (sinceS s l stamp).2]) ?_ rfl
   simp [o24, resV, Kx.getB, blkO, ldC, e6, e7, hne]
 (intros; try refine go_st ?_); refine go_r 11 14 (by decide) ?_; (refine sJ c24r1.eq_1 ?_; try with_reducible exact True.intro)
 refine ⟨_, ⟨_, [.int .i64 s.base, .slice A s.bytes.length c], rfl, rfl, rfl, fun j u hu => .g (cellG_le hg2 (f3 j u hu))⟩, ?_⟩
 (refine sI ?_; try with_reducible exact True.intro)
 have hck := CheckI_ok s l _ v G2 hs2 hv2
 refine (hck _ _).mono ?_; rintro _ _ ⟨rfl, rfl⟩; (refine sI ?_; try with_reducible exact True.intro)
 refine stX_blk [] [_] rfl (by simp) ⟨rfl, rfl⟩ ?_
 (refine sI ?_; try with_reducible exact True.intro)
 (repeat first | (with_reducible intro _) | refine go_skip ?_ | refine go_b ?_)
 (intros; try refine go_st ?_); refine go_r 14 15 (by decide) ?_; (refine sJ c24r2.eq_1 ?_; try with_reducible exact True.intro)
 refine ⟨_, ldN_blk (.head _) rfl, ?_⟩
 (refine sI ?_; try with_reducible exact True.intro)
 (intros; try refine go_st ?_); refine go_c ?_; (refine sI ?_; try with_reducible exact True.intro)
 refine gb (fun k1 => ?_) (fun k1 => ?_)
 · have k1 := of_decide_eq_true k1
   (intros; try refine go_st ?_); refine go_w _ (List.Sublist.refl _) (by decide) ?_; (refine sJ c24r3.eq_1 ?_; try with_reducible exact True.intro)
   refine ⟨_, ldN_blk (.head _) rfl, ?_⟩
   (refine sI ?_; try with_reducible exact True.intro)
   refine stX_blk [_] [] rfl (by simp) ⟨rfl, rfl⟩ ?_
   (refine sI ?_; try with_reducible exact True.intro)
   refine stX_blk [] [_] rfl (by simp) ⟨rfl, rfl⟩ ?_
   (refine sI ?_; try with_reducible exact True.intro)
   (intros; try refine go_st ?_)
   refine go_ret (fin (0, chkI s l) _ _ _ _ (by rw [sinceS, if_neg k1]) ?_ ?_)
   · (refine sI ?_; try with_reducible exact True.intro)
   · (refine sI ?_; try with_reducible exact True.intro)
 have k1 : chkI s l = 0 := by simpa using k1
 obtain ⟨hr, hsub, -⟩ := chkI_0 k1
 obtain ⟨j, hj, hlj, hall⟩ := when_at stamp hsub
 have hfs := since_from k1 hall
 have hfl := When_ok l stamp v G2 hv2
 have hfr := fromI_ok s _ j G2 hs2 hr hj
 rw [hlj] at hfl
 rw [k1]
 (repeat first | (with_reducible intro _) | refine go_skip ?_ | refine go_b ?_)
 (intros; try refine go_st ?_); refine go_x _ (List.Sublist.refl _) (by decide) ?_; (refine sJ c24r4.eq_1 ?_; try with_reducible exact True.intro)
 refine ⟨_, ⟨_, [.int .i64 s.base, .slice A s.bytes.length c], rfl, rfl, rfl, fun j u hu => .g (cellG_le hg2 (f3 j u hu))⟩, ?_⟩
 (refine sI ?_; try with_reducible exact True.intro)
 refine ⟨_, ⟨_, rfl, .g e5⟩, ?_⟩
 (refine sI ?_; try with_reducible exact True.intro)
 refine (hfl _ _).mono ?_; rintro _ _ ⟨rfl, rfl⟩; (refine sI ?_; try with_reducible exact True.intro)
 refine (hfr _ _).mono ?_
 rintro r h' ⟨G3, L', rfl, hg3, bq, bp, rfl, rfl, hit⟩
 (refine sI ?_; try with_reducible exact True.intro)
 refine ⟨grow_L hg3 (.cons _ (List.Sublist.refl _)), ?_⟩
 have e5' := cellG_le hg3 e5
 (intros; try refine go_st ?_)
 refine go_ghost (ghost_perm (L' := [.blk b7 [.int .i64 0], .blk b6 [.int .i64 0]] ++ [.blk bp [.int .i64 (((allB ((scanB s).take j)).length : Nat) : Int)]]) (List.perm_append_comm (l₁ := [_]))) ?_
 refine go_rfC (α := Nat) (fun k G' L' => L' = [.blk b7 [.int .i64 0], .blk b6 [.int .i64 0]] ∧ sinceS s l stamp = sinceL ((scanB s).drop (j + k)) stamp) (fun ex k G' L' => ex = .ret ∧ ∃ q : Int × Int, L' = [.blk b7 [.int .i64 q.2], .blk b6 [.int .i64 q.1]] ∧ q = sinceS s l stamp) rfl (eE) F55.enters (noRegs_blk (noRegs_blk noRegs_nil))
   (fun i G G' L hg h => h) hit FA_size ⟨rfl, hfs⟩ ?_ ?_ ?_
 · rintro yl k i args G' L' hki hgl ⟨x, cs, hx, hbe, rfl⟩ ⟨rfl, hst⟩ _
   obtain ⟨rfl, hkl⟩ := range_at hki
   have hat := sinceL_at (stamp := stamp) hx
   have e5'' := cellG_le hgl e5'
   have hbe0 := hbe
   obtain ⟨B, d, rfl, ⟨hBc, hBm, hBA⟩, -⟩ := hbe
   unfold cellH at hbe0 ⊢
   (refine sI ?_; try with_reducible exact True.intro)
   (intros; try refine go_st ?_); refine go_r 0 0 (by decide) ?_; (refine sJ c24r5.eq_1 ?_; try with_reducible exact True.intro)
   intro bb
   refine go_nil (rnd_a ?_)
   (intros; try refine go_st ?_); refine go_r 0 0 (by decide) ?_; (refine sJ c24r6.eq_1 ?_; try with_reducible exact True.intro)
   (intros; try refine go_st ?_)
   refine go_loop (fun e h => ∃ t : Nat, (t ≤ x.recs.length ∧ ∀ r ∈ x.recs.take t, recP stamp r = false) ∧ e 5 = .pointer (some ⟨b5, 0, none⟩) ∧ e 6 = .pointer (some ⟨b6, 0, none⟩) ∧ e 7 = .pointer (some ⟨b7, 0, none⟩) ∧ e 24 = .slice B x.recs.length d ∧ e 25 = .int .i64 x.recs.length ∧ e 26 = .int .i64 t ∧ h = ⟨G', [.reg 8 [.int .i64 x.base, .int .i64 x.last, .int .i64 x.src, .int .i64 x.epoch, .int .i64 x.pid, .int .i64 x.gen, .int .i64 x.seq, .bool x.txn, .int .i64 x.ctl, .slice B x.recs.length d], .blk b7 [.int .i64 0], .blk b6 [.int .i64 0]], []⟩) (fun e h => x.recs.length - iv (e 26)) ?_ ?_
   · exact ⟨0, ⟨Nat.zero_le _, fun r h => by cases h⟩, eE, eE, eE, eE, eE, eE, rfl⟩
   rintro e h ⟨t, ⟨ht, hrs⟩, e5x, e6, e7, e24, e25, e26, rfl⟩
   refine go_keep [5, 6, 7, 24, 25, 26] ?_
   (refine sJ6 @e5x @e6 @e7 @e24 @e25 @e26 ?_; try with_reducible exact True.intro)
   (intros; try refine go_st ?_); refine go_r 0 0 (by decide) ?_; (refine sJ c24r7.eq_1 ?_; try with_reducible exact True.intro)
   (intros; try refine go_st ?_); refine go_c ?_; (refine sI ?_; try with_reducible exact True.intro)
   refine gb (fun htk => ?_) (fun htk => ?_)
   · have htk : t < x.recs.length := by have := of_decide_eq_true htk; omega
     have hw := inc_i t d (by omega) hBm
     obtain ⟨r, hr⟩ : ∃ r, x.recs[t]? = some r := ⟨x.recs[t], List.getElem?_eq_getElem htk⟩
     (repeat first | (with_reducible intro _) | refine go_skip ?_ | refine go_b ?_)
     (intros; try refine go_st ?_); refine go_r 28 30 (by decide) ?_; (refine sJ c24r8.eq_1 ?_; try with_reducible exact True.intro)
     refine hBA.x_ld hr rfl rfl ?_
     rintro a2 ha2 cs ⟨rfl, -⟩
     unfold cellR
     (refine sI ?_; try with_reducible exact True.intro)
     (intros; try refine go_st ?_); refine go_r 31 33 (by decide) ?_; (refine sJ c24r9.eq_1 ?_; try with_reducible exact True.intro)
     refine ⟨_, ⟨_, rfl, .g e5''⟩, ?_⟩
     (refine sI ?_; try with_reducible exact True.intro)
     (intros; try refine go_st ?_); refine go_c ?_; (refine sI ?_; try with_reducible exact True.intro)
     refine gb (fun k2 => ?_) (fun k2 => ?_)
     · have k2 := of_decide_eq_true k2
       have hfd : x.recs.find? (recP stamp) = some r := find_at hrs hr (decide_eq_true k2)
       rw [hfd] at hat
       (intros; try refine go_st ?_); refine go_r 35 36 (by decide) ?_; (refine sJ c24r10.eq_1 ?_; try with_reducible exact True.intro)
       refine stX_blk [_, _, _] [] rfl (by simp) ⟨rfl, rfl⟩ ?_
       (refine sI ?_; try with_reducible exact True.intro)
       refine stX_blk [_, _] [_] rfl (by simp) ⟨rfl, rfl⟩ ?_
       (refine sI ?_; try with_reducible exact True.intro)
       (intros; try refine go_st ?_)
       exact go_ret (rnd_r _ (.cons _ (.cons _ (List.Sublist.refl _))) (noRegs_blk (noRegs_blk noRegs_nil)) ⟨rfl, (r.off, 0), rfl, by rw [hst, hat]⟩)
     · have k2 := of_decide_eq_false k2
       (repeat first | (with_reducible intro _) | refine go_skip ?_ | refine go_b ?_)
       refine go_ghost (ghost_sub (L' := [.reg 8 [.int .i64 x.base, .int .i64 x.last, .int .i64 x.src, .int .i64 x.epoch, .int .i64 x.pid, .int .i64 x.gen, .int .i64 x.seq, .bool x.txn, .int .i64 x.ctl, .slice B x.recs.length d], .blk b7 [.int .i64 0], .blk b6 [.int .i64 0]]) (.cons _ (List.Sublist.refl _))) ?_
       (intros; try refine go_st ?_); refine go_r 36 37 (by decide) ?_; (refine sJ2 c24r11.eq_1 @hw ?_; try with_reducible exact True.intro)
       (intros; try refine go_st ?_)
       refine go_l ⟨⟨t + 1, ⟨by omega, fun y hy => ?_⟩, eE, eE, eE, eE, eE, eE, rfl⟩, ?_⟩
       · rw [take_snoc hr] at hy
         rcases List.mem_append.1 hy with hy | hy
         · exact hrs y hy
         · rw [List.mem_singleton.1 hy]
           exact decide_eq_false k2
       · (refine sI ?_; try with_reducible exact True.intro)
         omega
   · have htk : t = x.recs.length := by have := of_decide_eq_false htk; omega
     subst htk
     rw [List.take_length] at hrs
     rw [find_none hrs] at hat
     refine go_exit ?_
     (refine sI ?_; try with_reducible exact True.intro)
     (repeat first | (with_reducible intro _) | refine go_skip ?_ | refine go_b ?_)
     exact go_nil (rnd_n _ (.cons _ (List.Sublist.refl _)) (noRegs_blk (noRegs_blk noRegs_nil)) ⟨rfl, by rw [hst, hat]; rfl⟩)
 · rintro G' L' C' dd hgl ⟨rfl, hst⟩ _ ⟨p, rfl⟩
   rw [List.length_range, show j + ((scanB s).length - j) = (scanB s).length by omega, List.drop_length, sinceL_nil] at hst
   (intros; try refine go_st ?_)
   refine go_ghost (ghost_sub (List.sublist_append_left _ _)) ?_
   (intros; try refine go_st ?_); refine go_r 0 0 (by decide) ?_; (refine sJ c24r12.eq_1 ?_; try with_reducible exact True.intro)
   refine stX_blk [_] [] rfl (by simp) ⟨rfl, rfl⟩ ?_
   (refine sI ?_; try with_reducible exact True.intro)
   refine stX_blk [] [_] rfl (by simp) ⟨rfl, rfl⟩ ?_
   (refine sI ?_; try with_reducible exact True.intro)
   (intros; try refine go_st ?_)
   refine go_ret (fin (0, 90) _ _ _ _ hst.symm ?_ ?_)
   · (refine sI ?_; try with_reducible exact True.intro)
   · (refine sI ?_; try with_reducible exact True.intro)
 · rintro ex i G' L' C' dd _ _ ⟨rfl, q, rfl, hq⟩ _ ⟨p, rfl⟩
   refine fin q _ _ _ _ hq ?_ ?_
   · (refine sI ?_; try with_reducible exact True.intro)
   · (refine sI ?_; try with_reducible exact True.intro)
theorem recs_ld {P : Program} {h : H} {d : Nat} {l : List SI} {K : Env → H → Prop} {e : Addr → Env} {G : Nat → Option Obj} {A : Option Addr} {bs : List Batch} {j : Int} {k : Nat} {x : Batch} (hA : SlA G (BE G) 10 A bs) (hx : bs[k]? = some x) (hj : j = k) (hG : h.G = G)
   (hk : ∀ a B c, A = some a → (x.recs.length ≤ c ∧ c ≤ maxLen ∧ SlA G RR 5 B x.recs) → kR P l d (e a) K (.slice B x.recs.length c) h) : (0 ≤ j ∧ j < bs.length) ∧ ∃ a, A = some a ∧ ldX P (.pointer (some ((a.add (j.toNat * 10)).add 9))) none d l (e a) h K := by
 obtain ⟨G', L, D⟩ := h
 dsimp only at hG
 subst hG
 obtain ⟨a, cs, ha, ⟨B, c, rfl, hB, -⟩, _, _, hld⟩ := hA.at_ hx L D
 have := SlA.lt hx
 subst hj
 exact ⟨by omega, a, ha, _, by simpa using hld 9 _ rfl, hk a B c ha hB⟩
theorem F32 : Fun Try.prog 32 44 v32 c32 o32 := Fun.mk' Try.func32 Try.ntmps32 (by kernel_rfl) (by kernel_rfl) s32 q32
theorem F11 : Fun Try.prog 11 135 v11 c11 o11 := Fun.mkH Try.func11 Try.ntmps11 (by kernel_rfl) (by kernel_rfl) s11 q11
def TwoR (G' : Nat → Option Obj) (r : Value) : Prop := ∃ A c, r = .tuple #[.agg #[.int .i64 0, .slice A sgI.bytes.length c], .bool true] ∧ SB G' (.slice A sgI.bytes.length c) sgI.bytes
theorem two_ok (G : Nat → Option Obj) : FnD Try.prog 32 #[] G TwoR := by
 refine F32.fnD (by simp) (go_of ?_)
 unfold c32
 (intros; try refine go_st ?_); refine go_r 0 0 (by decide) ?_; (refine sJ c32r0.eq_1 ?_; try with_reducible exact True.intro)
 (intros; try refine go_st ?_); refine go_r 10 14 (by decide) ?_; (refine sJ c32r1.eq_1 ?_; try with_reducible exact True.intro)
 refine (ownSE_d (New_ok 0 G) _ _).mono ?_
 rintro r h' ⟨G1, rfl, hg1, A1, c1, rfl, hs1⟩
 have hn : newS 0 = (⟨0, []⟩, 0) := rfl
 rw [hn] at hs1 ⊢
 dsimp only at hs1 ⊢
 (refine sI ?_; try with_reducible exact True.intro)
 (intros; try refine go_st ?_); refine go_r 14 18 (by decide) ?_; (refine sJ c32r2.eq_1 ?_; try with_reducible exact True.intro)
 intro b hb
 (refine sI ?_; try with_reducible exact True.intro)
 intro _
 (repeat (with_reducible intro _)); try refine go_seq ?_
 have hra : Cells RR 5 laI.recs [.int .i64 0, .string ⟨#[]⟩, .string ⟨#[120]⟩, .bool false, .int .i64 5, .int .i64 1, .string ⟨#[]⟩, .string ⟨#[121]⟩, .bool false, .int .i64 7] :=
   .cons (cs := [_, _, _, _, _]) ⟨rfl, ⟨by decide, by decide⟩, by decide, by decide⟩ rfl (.one ⟨rfl, ⟨by decide, by decide⟩, by decide, by decide⟩ rfl)
 refine go_gx (gx_slv_at [_] _ (by decide) hra) ?_
 rintro h' ⟨G2, rfl, hg2, A2, c2, hA2, hc2, hm2, hs2⟩
 cases hA2
 have hbeA : BE G2 laI (cellH laI (.slice (some ⟨b, 0, none⟩) 2 2)) := ⟨_, _, rfl, ⟨hc2, hm2, hs2⟩, by decide, by decide, by decide, by decide, by decide, by decide, by decide, by decide⟩
 (intros; try refine go_st ?_); refine go_r 18 21 (by decide) ?_; (refine sJ c32r3.eq_1 ?_; try with_reducible exact True.intro)
 intro b3 hb3
 (refine sI ?_; try with_reducible exact True.intro)
 intro _
 (repeat (with_reducible intro _)); try refine go_seq ?_
 have hrb : Cells RR 5 lbI.recs [.int .i64 2, .string ⟨#[]⟩, .string ⟨#[122]⟩, .bool false, .int .i64 6] := .one ⟨rfl, ⟨by decide, by decide⟩, by decide, by decide⟩ rfl
 refine go_gx (gx_slv_at [_] _ (by decide) hrb) ?_
 rintro h' ⟨G3, rfl, hg3, A3, c3, hA3, hc3, hm3, hs3⟩
 cases hA3
 have hbeB : BE G3 lbI (cellH lbI (.slice (some ⟨b3, 0, none⟩) 1 1)) := ⟨_, _, rfl, ⟨hc3, hm3, hs3⟩, by decide, by decide, by decide, by decide, by decide, by decide, by decide, by decide⟩
 have hse1 : SE G3 ⟨0, []⟩ [.int .i64 0, .slice A1 0 c1] := ⟨A1, c1, rfl, SB.le hs1 (hg2.trans hg3), by decide⟩
 have ha := ownSE_d (Append_ok ⟨0, []⟩ laI 1000 _ _ G3 hse1 (by simp) (BE.le hg3 hbeA) (by decide))
 rw [app_aI] at ha
 have hcA : cellH laI (.slice (some ⟨b, 0, none⟩) 2 2) = [.int .i64 0, .int .i64 1, .int .i64 0, .int .i64 0, .int .i64 (-1), .int .i64 0, .int .i64 0, .bool false, .int .i64 0, .slice (some ⟨b, 0, none⟩) 2 2] := rfl
 have hcB : cellH lbI (.slice (some ⟨b3, 0, none⟩) 1 1) = [.int .i64 2, .int .i64 2, .int .i64 2, .int .i64 0, .int .i64 (-1), .int .i64 0, .int .i64 0, .bool false, .int .i64 0, .slice (some ⟨b3, 0, none⟩) 1 1] := rfl
 rw [hcA] at ha
 (intros; try refine go_st ?_); refine go_r 21 27 (by decide) ?_; (refine sJ c32r4.eq_1 ?_; try with_reducible exact True.intro)
 refine (ha _ _).mono ?_
 rintro r h' ⟨G4, rfl, hg4, A4, c4, rfl, hs4⟩
 dsimp only at hs4 ⊢
 have hse2 : SE G4 ⟨0, bytesB laI⟩ [.int .i64 0, .slice A4 (bytesB laI).length c4] := ⟨A4, c4, rfl, hs4, by decide⟩
 have hb := ownSE_d (Append_ok ⟨0, bytesB laI⟩ lbI 1000 _ _ G4 hse2 (by simp [laI_len]) (BE.le hg4 hbeB) (by decide))
 rw [app_bI, hcB] at hb
 (refine sI ?_; try with_reducible exact True.intro)
 (intros; try refine go_st ?_); refine go_r 27 33 (by decide) ?_; (refine sJ c32r5.eq_1 ?_; try with_reducible exact True.intro)
 refine (hb _ _).mono ?_
 rintro r h' ⟨G5, rfl, hg5, A5, c5, rfl, hs5⟩
 dsimp only at hs5 ⊢
 (refine sI ?_; try with_reducible exact True.intro)
 (intros; try refine go_st ?_); refine go_r 33 44 (by decide) ?_; (refine sJ c32r6.eq_1 ?_; try with_reducible exact True.intro)
 (intros; try refine go_st ?_)
 refine go_ret (retQ_v rfl ?_); simp only [push_cast, Nat.reduceBEq]
 exact ⟨A5, c5, rfl, hs5⟩
theorem live_ok (G : Nat → Option Obj) : FnS Try.prog 11 #[] G (.bool true) := by
 refine F11.fnS (by simp) (go_of ?_)
 unfold c11
 (intros; try refine go_st ?_); refine go_r 0 0 (by decide) ?_; (refine sJ c11r0.eq_1 ?_; try with_reducible exact True.intro)
 (intros; try refine go_st ?_); refine go_r 11 15 (by decide) ?_; (refine sJ c11r1.eq_1 ?_; try with_reducible exact True.intro)
 refine (two_ok G _ _).mono ?_
 rintro r h' ⟨G1, rfl, hg1, A1, c1, rfl, hs1⟩
 have hse : ∀ G', Gle G1 G' → SE G' sgI [.int .i64 0, .slice A1 sgI.bytes.length c1] := fun G' hg => ⟨A1, c1, rfl, SB.le hs1 hg, by decide⟩
 (refine sI ?_; try with_reducible exact True.intro)
 have hm := Make_ok sgI 1 _ G1 (hse G1 (.refl _))
 unfold MakeR at hm
 rw [make_I] at hm
 (intros; try refine go_st ?_); refine go_r 15 20 (by decide) ?_; (refine sJ c11r2.eq_1 ?_; try with_reducible exact True.intro)
 refine (hm _ _).mono ?_
 rintro r h' ⟨G2, L', rfl, hg2, u, zc, rfl, hzc, rfl⟩
 dsimp only
 (refine sI ?_; try with_reducible exact True.intro)
 (repeat (with_reducible intro _)); try refine go_seq ?_
 refine go_gx (gx_slv_at [] _ (by decide) hzc) ?_
 rintro h' ⟨G3, rfl, hg3, hv⟩
 have hv0 := hv
 obtain ⟨A3, c3, rfl, hc3, hm3, hA3⟩ := hv
 have hg13 := hg2.trans hg3
 have hz0 : ((2 : Nat) : Int) = 2 := rfl
 have hne : decide ((0 : Int) + 1 + 1 ≠ 2) = false := by decide
 have h00 : decide ((0 : Int) ≠ 0) = false := by decide
 (intros; try refine go_st ?_); refine go_r 20 30 (by decide) ?_; (refine sJ3 c11r3.eq_1 @hne @h00 ?_; try with_reducible exact True.intro)
 (intros; try refine go_st ?_); refine go_c ?_; (refine sI ?_; try with_reducible exact True.intro)
 (repeat first | (with_reducible intro _) | refine go_skip ?_ | refine go_b ?_)
 have hsi := SinceI_ok sgI _ 6 _ _ G3 (hse G3 hg13) hv0
 rw [since_6] at hsi
 have hsi8 := SinceI_ok sgI _ 8 _ _ G3 (hse G3 hg13) hv0
 rw [since_8] at hsi8
 have hfi := FindI_ok sgI _ 2 _ _ G3 (hse G3 hg13) hv0
 unfold FindR at hfi
 rw [find_2] at hfi
 (intros; try refine go_st ?_); refine go_r 31 37 (by decide) ?_; (refine sJ c11r5.eq_1 ?_; try with_reducible exact True.intro)
 refine (hsi _ _).mono ?_; rintro _ _ ⟨rfl, rfl⟩; (refine sI ?_; try with_reducible exact True.intro)
 (intros; try refine go_st ?_); refine go_r 37 43 (by decide) ?_; (refine sJ c11r6.eq_1 ?_; try with_reducible exact True.intro)
 refine (hsi8 _ _).mono ?_; rintro _ _ ⟨rfl, rfl⟩; (refine sI ?_; try with_reducible exact True.intro)
 (intros; try refine go_st ?_); refine go_r 43 49 (by decide) ?_; (refine sJ c11r7.eq_1 ?_; try with_reducible exact True.intro)
 refine (hfi _ _).mono ?_
 rintro r h' ⟨G4, rfl, hg4, cs, rfl, hbe⟩
 obtain ⟨B, d, rfl, -⟩ := hbe
 unfold cellH
 have hg34 := hg13.trans hg4
 have hv4 := hv0.le hg4 fun _ _ h => h
 have hA4 := hA3.le hg4 fun _ _ h => h
 have hck := CheckI_ok sgI _ _ _ G4 (hse G4 hg34) hv4
 rw [chk_I] at hck
 have hck0 := CheckI_ok sgI [] _ (.slice none 0 0) G4 (hse G4 hg34) .nil
 rw [chk_I0] at hck0
 have hf1 := Floor_ok _ 1 _ G4 hv4
 have hf2 := Floor_ok _ 2 _ G4 hv4
 have hw8 := When_ok _ 8 _ G4 hv4
 have hw7 := When_ok _ 7 _ G4 hv4
 rw [show lastE (offP 1) [⟨0, 0, 7⟩, ⟨2, 30, 7⟩] = 0 from by decide] at hf1
 rw [show lastE (offP 2) [⟨0, 0, 7⟩, ⟨2, 30, 7⟩] = 30 from by decide] at hf2
 rw [show lastE (stP 8) [⟨0, 0, 7⟩, ⟨2, 30, 7⟩] = 30 from by decide] at hw8
 rw [show lastE (stP 7) [⟨0, 0, 7⟩, ⟨2, 30, 7⟩] = 0 from by decide] at hw7
 (repeat first | (with_reducible intro _) | refine go_skip ?_ | refine go_b ?_)
 (refine sI ?_; try with_reducible exact True.intro)
 (repeat first | (with_reducible intro _) | refine go_skip ?_ | refine go_b ?_)
 (intros; try refine go_st ?_); refine go_x _ (List.Sublist.refl _) (by decide) ?_; (refine sJ c11r8.eq_1 ?_; try with_reducible exact True.intro)
 refine hA4.y_ld (k := 0) (x := ⟨0, 0, 7⟩) rfl rfl rfl ?_
 rintro a1 ha1 cs hcs
 cases (show cs = cellE ⟨0, 0, 7⟩ from hcs)
 unfold cellE
 have hlb : lbI.base = 2 := rfl
 have hp3 : decide ((0 : Int) < 30) = true := by decide
 (refine sI ?_; try with_reducible exact True.intro)
 refine hA4.y_lf (k := 1) (x := ⟨2, 30, 7⟩) (u := .int .i64 2) rfl rfl rfl (fun cs h => by cases (show cs = cellE ⟨2, 30, 7⟩ from h); rfl) fun a2 ha2 => ?_
 (refine sI ?_; try with_reducible exact True.intro)
 refine hA4.y_lf (k := 1) (x := ⟨2, 30, 7⟩) (u := .int .i64 30) rfl rfl rfl (fun cs h => by cases (show cs = cellE ⟨2, 30, 7⟩ from h); rfl) fun a3 ha3 => ?_
 (refine sJ @hp3 ?_; try with_reducible exact True.intro)
 refine hA4.y_lf (k := 1) (x := ⟨2, 30, 7⟩) (u := .int .i64 7) rfl rfl rfl (fun cs h => by cases (show cs = cellE ⟨2, 30, 7⟩ from h); rfl) fun a4 ha4 => ?_
 (refine sJ @hlb ?_; try with_reducible exact True.intro)
 refine (hck _ _).mono ?_; rintro _ _ ⟨rfl, rfl⟩; (refine sI ?_; try with_reducible exact True.intro)
 refine (hck0 _ _).mono ?_; rintro _ _ ⟨rfl, rfl⟩; (refine sI ?_; try with_reducible exact True.intro)
 refine (hf1 _ _).mono ?_; rintro _ _ ⟨rfl, rfl⟩; (refine sI ?_; try with_reducible exact True.intro)
 refine hA4.y_lf (k := 1) (x := ⟨2, 30, 7⟩) (u := .int .i64 30) rfl rfl rfl (fun cs h => by cases (show cs = cellE ⟨2, 30, 7⟩ from h); rfl) fun a5 ha5 => ?_
 (refine sI ?_; try with_reducible exact True.intro)
 refine (hf2 _ _).mono ?_; rintro _ _ ⟨rfl, rfl⟩; (refine sI ?_; try with_reducible exact True.intro)
 refine hA4.y_lf (k := 1) (x := ⟨2, 30, 7⟩) (u := .int .i64 30) rfl rfl rfl (fun cs h => by cases (show cs = cellE ⟨2, 30, 7⟩ from h); rfl) fun a6 ha6 => ?_
 (refine sI ?_; try with_reducible exact True.intro)
 refine (hw8 _ _).mono ?_; rintro _ _ ⟨rfl, rfl⟩; (refine sI ?_; try with_reducible exact True.intro)
 refine (hw7 _ _).mono ?_; rintro _ _ ⟨rfl, rfl⟩; (refine sI ?_; try with_reducible exact True.intro)
 (intros; try refine go_st ?_)
 refine go_ret (retQ_v rfl ?_); simp only [push_cast, Nat.reduceBEq]
structure MkF (s : Sg) (every : Int) (l : List En) : Prop where
 eq : makeS s every = (l, 0)
 right : rightB s = true
 ev : 1 ≤ every ∧ every ≤ 4096
 sub : l.Sublist (allE s)
 chk : chkI s l = 0
 len : l.length ≤ s.bytes.length
 few : s.bytes.length ≤ 4096
 good : goodB s = s.bytes.length
 pos : ∀ x ∈ l, 0 ≤ x.pos ∧ x.pos ≤ 4096
 first : ∀ x, l[0]? = some x → x.pos = 0
 none : l = [] ↔ s.bytes.length = 0
 rises : Rises every l
 spare : (l.length : Int) ≤ (s.bytes.length : Int) / every + 1
theorem make_all (s : Sg) (every : Int) : makeS s every = ([], 1) ∨ ∃ l, MkF s every l := by
 by_cases h : (makeS s every).2 = 0
 · obtain ⟨⟨h1, h2⟩, h3⟩ := make_0 h
   have hc := make_chk h
   have hs := spares_len h
   rw [h3] at hc hs
   dsimp only at hc hs
   have hg := (rightB_iff.1 h1).2.2
   have hf := (rightB_iff.1 h1).2.1
   have hsub := mkE_sub every (allE s) 0
   have hh : ∀ e, (allE s).head? = some e → e.pos = 0 := fun e he => allE_head he
   obtain ⟨r, hsc⟩ := scan_spec s
   have hsl := hsc.len
   have hsl2 : (scanB s).length ≤ goodB s := by unfold goodB; omega
   refine .inr ⟨_, h3, h1, h2, hsub, hc, ?_, hf, hg, fun x hx => ?_, fun x hx => ?_, ?_, mk_rises (allE_ups s), hs⟩
   · have := hsub.length_le
     rw [allE_len] at this
     omega
   · obtain ⟨k, hk⟩ := List.getElem?_of_mem (hsub.subset hx)
     have hkl := (List.getElem?_eq_some_iff.1 hk).1
     rw [allE_len] at hkl
     have hb : (scanB s)[k]? = some (scanB s)[k] := List.getElem?_eq_getElem hkl
     have := allE_get rfl hb
     rw [hk] at this
     cases this
     have h6 := allB_take_le (scanB s) k
     have h7 : (allB (scanB s)).length = s.bytes.length := hg
     show 0 ≤ (((allB ((scanB s).take k)).length : Nat) : Int) ∧ (((allB ((scanB s).take k)).length : Nat) : Int) ≤ _
     omega
   · rw [← List.head?_eq_getElem?, mkE_head hh] at hx
     exact hh x hx
   · rw [mk_nil hh, all_nil h1]
 · exact .inl (make_n h)
theorem find_snoc {α : Type} (p : α → Bool) (l : List α) (x : α) : (l ++ [x]).find? p = match l.find? p with | some y => some y | none => if p x = true then some x else none := by
 rw [List.find?_append]
 cases h : l.find? p with
 | some y => rfl
 | none => cases hp : p x <;> simp [hp]
theorem F10 : Fun Try.prog 10 155 v10 c10 o10 := Fun.mk' Try.func10 Try.ntmps10 (by kernel_rfl) (by kernel_rfl) s10 q10
def FoundIs (o : Option Batch) (f : Bool) (b : Batch) : Prop := match o with | some x => f = true ∧ b = x | none => f = false
def ToldIs (o : Option Rec) (f : Bool) (a : Int) : Prop := match o with | some r => f = true ∧ a = r.off | none => f = false ∧ a = 0
theorem found_t {o : Option Batch} {b : Batch} (h : FoundIs o true b) : o = some b := by
 cases o with
 | none => cases h
 | some x => rw [h.2]
theorem found_f {o : Option Batch} {b : Batch} (h : FoundIs o false b) : o = none := by
 cases o with
 | none => rfl
 | some x => cases h.1
theorem told_t {o : Option Rec} {a : Int} (h : ToldIs o true a) : ∃ r, o = some r ∧ a = r.off := by
 cases o with
 | none => cases h.1
 | some x => exact ⟨x, rfl, h.2⟩
theorem told_f {o : Option Rec} {a : Int} (h : ToldIs o false a) : o = none ∧ a = 0 := by
 cases o with
 | none => exact ⟨rfl, h.2⟩
 | some x => cases h.1
set_option maxHeartbeats 1000000 in
theorem IndexWhole_ok (s : Sg) (every off stamp : Int) (cs : List Value) (G : Nat → Option Obj) (hs : SE G s cs) (he : I64 every) (ho : I64 off) (hst : I64 stamp) : FnS Try.prog 10 #[.agg cs.toArray, .int .i64 every, .int .i64 off, .int .i64 stamp] G (.bool true) := by
 have hs0 := hs
 obtain ⟨A, c, rfl, hl, hib⟩ := hs
 refine F10.fnS (by simp) (go_of ?_)
 unfold c10
 unfold cellS at hs0 ⊢
 have hfew := few_ok s _ none 0 0 G hs0
 (intros; try refine go_st ?_); refine go_r 0 0 (by decide) ?_; (refine sJ c10r0.eq_1 ?_; try with_reducible exact True.intro)
 (intros; try refine go_st ?_); refine go_r 24 25 (by decide) ?_; (refine sJ c10r1.eq_1 ?_; try with_reducible exact True.intro)
 refine (live_ok _ _ _).mono ?_; rintro _ _ ⟨rfl, rfl⟩; (refine sI ?_; try with_reducible exact True.intro)
 (intros; try refine go_st ?_); refine go_r 25 26 (by decide) ?_; (refine sJ c10r2.eq_1 ?_; try with_reducible exact True.intro)
 (intros; try refine go_st ?_); refine go_c ?_; (refine sI ?_; try with_reducible exact True.intro)
 (repeat first | (with_reducible intro _) | refine go_skip ?_ | refine go_b ?_)
 (intros; try refine go_st ?_); refine go_r 27 29 (by decide) ?_; (refine sJ c10r4.eq_1 ?_; try with_reducible exact True.intro)
 refine (hfew _ _).mono ?_; rintro _ _ ⟨rfl, rfl⟩; (refine sI ?_; try with_reducible exact True.intro)
 (intros; try refine go_st ?_); refine go_c ?_; (refine sI ?_; try with_reducible exact True.intro)
 refine gb (fun k1 => ?_) (fun k1 => ?_)
 · (intros; try refine go_st ?_); refine go_r 30 31 (by decide) ?_; (refine sJ c10r5.eq_1 ?_; try with_reducible exact True.intro)
   (intros; try refine go_st ?_)
   refine go_ret (retQ_v rfl ?_); simp only [push_cast, Nat.reduceBEq]
 (repeat first | (with_reducible intro _) | refine go_skip ?_ | refine go_b ?_)
 (intros; try refine go_st ?_); refine go_r 31 37 (by decide) ?_; (refine sJ c10r6.eq_1 ?_; try with_reducible exact True.intro)
 have hmk := Make_ok s every _ G hs0
 unfold MakeR at hmk
 rcases make_all s every with hno | ⟨l, hf⟩
 · rw [hno] at hmk
   refine (hmk _ _).mono ?_
   rintro r h' ⟨G1, L', rfl, hg1, u, zc, rfl, hzc, rfl⟩
   dsimp only
   (refine sI ?_; try with_reducible exact True.intro)
   have h10 : decide ((1 : Int) ≠ 0) = true := by decide
   (intros; try refine go_st ?_); refine go_r 37 38 (by decide) ?_; (refine sJ2 c10r7.eq_1 @h10 ?_; try with_reducible exact True.intro)
   (intros; try refine go_st ?_); refine go_c ?_; (refine sI ?_; try with_reducible exact True.intro)
   (intros; try refine go_st ?_); refine go_r 39 40 (by decide) ?_; (refine sJ c10r8.eq_1 ?_; try with_reducible exact True.intro)
   (intros; try refine go_st ?_)
   refine go_ret (retQ_v rfl ?_); simp only [push_cast, Nat.reduceBEq]
 rw [hf.eq] at hmk
 refine (hmk _ _).mono ?_
 rintro r h' ⟨G1, L', rfl, hg1, u, zc, rfl, hzc, rfl⟩
 dsimp only at hzc ⊢
 (refine sI ?_; try with_reducible exact True.intro)
 (repeat (with_reducible intro _)); try refine go_seq ?_
 refine go_gx (gx_slv_at [] _ (by decide) hzc) ?_
 rintro h' ⟨G2, rfl, hg2, A2, c2, rfl, hc2, hm2, hA2⟩
 have hg02 := hg1.trans hg2
 have h00 : decide ((0 : Int) ≠ 0) = false := by decide
 (intros; try refine go_st ?_); refine go_r 37 38 (by decide) ?_; (refine sJ2 c10r7.eq_1 @h00 ?_; try with_reducible exact True.intro)
 (intros; try refine go_st ?_); refine go_c ?_; (refine sI ?_; try with_reducible exact True.intro)
 (repeat first | (with_reducible intro _) | refine go_skip ?_ | refine go_b ?_)
 (intros; try refine go_st ?_); refine go_r 40 45 (by decide) ?_; (refine sJ c10r9.eq_1 ?_; try with_reducible exact True.intro)
 have hfew4 := hf.few
 refine (Scan_ok s _ G2 (SE.le hg02 hs0) (by omega) _ _).mono ?_
 rintro r h' ⟨G3, L', rfl, hg3, w, z3, rfl, hz3, rfl⟩
 (refine sI ?_; try with_reducible exact True.intro)
 (repeat (with_reducible intro _)); try refine go_seq ?_
 refine go_gx (gx_slv_at [] _ (by decide) hz3) ?_
 rintro h' ⟨G4, rfl, hg4, hv4⟩
 have hg24 := hg3.trans hg4
 have hg04 := hg02.trans hg24
 have hs4 := SE.le hg04 hs0
 have hv4 : SlV G4 (BE G4) 10 w (scanB s) := hv4.le (.refl _) fun _ _ h => BE.le hg4 h
 obtain ⟨A4, c4, rfl, hc4, hm4, hA4⟩ := id hv4
 have hl4 : SlV G4 EnE 3 (.slice A2 l.length c2) l := ⟨A2, c2, rfl, hc2, hm2, hA2.le hg24 fun _ _ h => h⟩
 have hfi := FindI_ok s l off _ _ G4 hs4 hl4
 have hsi := fun G5 (hg : Gle G4 G5) => SinceI_ok s l stamp _ _ G5 (SE.le hg hs4) (hl4.le hg fun _ _ h => h)
 rw [findS, if_pos hf.chk] at hfi
 rw [sinceS, if_pos hf.chk] at hsi
 unfold findL at hfi
 unfold sinceL at hsi
 generalize scanB s = bs at hfi hsi hA4 hv4 hc4
 (intros; try refine go_st ?_); refine go_r 0 0 (by decide) ?_; (refine sJ c10r10.eq_1 ?_; try with_reducible exact True.intro)
 (intros; try refine go_st ?_); refine go_r 0 0 (by decide) ?_; (refine sJ c10r11.eq_1 ?_; try with_reducible exact True.intro)
 (intros; try refine go_st ?_); refine go_r 0 0 (by decide) ?_; (refine sJ c10r12.eq_1 ?_; try with_reducible exact True.intro)
 (intros; try refine go_st ?_); refine go_r 0 0 (by decide) ?_; (refine sJ c10r13.eq_1 ?_; try with_reducible exact True.intro)
 (intros; try refine go_st ?_)
 refine go_loop (fun e h => ∃ (k : Nat) (f g : Bool) (fb : Batch) (V : Value) (at_ : Int), (k ≤ bs.length ∧ FoundIs ((bs.take k).find? (findP off)) f fb ∧ BE G4 fb (cellH fb V) ∧ ToldIs (((bs.take k).flatMap Batch.recs).find? (recP stamp)) g at_) ∧ (e 2 = .int .i64 off ∧ e 3 = .int .i64 stamp ∧ e 9 = .bool true ∧ e 10 = .slice A2 l.length c2 ∧ e 12 = .slice A4 bs.length c4) ∧ e 14 = .bool f ∧ e 15 = .bool g ∧ e 17 = .int .i64 at_ ∧ e 18 = .int .i64 k ∧ h = ⟨G4, [.reg 16 (cellH fb V), .reg 4 [.int .i64 s.base, .slice A s.bytes.length c]], []⟩) (fun e h => bs.length - iv (e 18)) ?_ ?_
 · exact ⟨0, false, false, noneB, .slice none 0 0, 0, ⟨Nat.zero_le _, rfl, noneB_BE _, ⟨rfl, rfl⟩⟩, ⟨eE, eE, eE, eE, eE⟩, eE, eE, eE, eE, rfl⟩
 rintro e h ⟨k, f, g, fb, V, at_, ⟨hk, hfo, hbe, hto⟩, ⟨e2, e3, e9, e10, e12⟩, e14, e15, e17, e18, rfl⟩
 refine go_keep [2, 3, 9, 10, 12, 14, 15, 17, 18] ?_
 (try simp -implicitDefEqProofs only [kR_e, kQ_e, push_cast, Nat.reduceBEq, Nat.reduceAdd, Nat.reduceSub, Nat.reduceMul, Nat.reduceLT, Nat.reduceLeDiff, Nat.reduceEqDiff, reduceIte, Bool.not_true, Bool.not_false, true_and, and_true, Option.map_some, Option.bind_some, Int.toNat_natCast, e2, e3, e9, e10, e12, e14, e15, e17, e18])
 (intros; try refine go_st ?_); refine go_r 45 48 (by decide) ?_; (refine sJ c10r14.eq_1 ?_; try with_reducible exact True.intro)
 (intros; try refine go_st ?_); refine go_c ?_; (refine sI ?_; try with_reducible exact True.intro)
 refine gb (fun k2 => ?_) (fun k2 => ?_)
 · have hkl : k < bs.length := by have := of_decide_eq_true k2; omega
   have hw := inc_i k c4 (by omega) hm4
   obtain ⟨x, hx⟩ : ∃ x, bs[k]? = some x := ⟨bs[k], List.getElem?_eq_getElem hkl⟩
   have hfs := find_snoc (findP off) (bs.take k) x
   rw [← take_snoc hx] at hfs
   (repeat (with_reducible intro _)); try refine go_seq ?_
   try refine go_skip ?_
   (repeat (with_reducible intro _)); try refine go_seq ?_
   refine go_blk ?_
   (repeat (with_reducible intro _)); try refine go_seq ?_
   refine go_cut (fun e h => (∃ (f : Bool) (fb : Batch) (V : Value), (FoundIs ((bs.take (k + 1)).find? (findP off)) f fb ∧ BE G4 fb (cellH fb V)) ∧ e 14 = .bool f ∧ h = ⟨G4, [.reg 16 (cellH fb V), .reg 4 [.int .i64 s.base, .slice A s.bytes.length c]], []⟩) ∧ (e 2 = .int .i64 off ∧ e 3 = .int .i64 stamp ∧ e 9 = .bool true ∧ e 10 = .slice A2 l.length c2 ∧ e 12 = .slice A4 bs.length c4) ∧ e 15 = .bool g ∧ e 17 = .int .i64 at_ ∧ e 18 = .int .i64 k) ?_ ?_
   · cases f
     · rw [found_f hfo] at hfs
       dsimp only at hfs
       (intros; try refine go_st ?_); refine go_r 51 61 (by decide) ?_; (refine sJ c10r15.eq_1 ?_; try with_reducible exact True.intro)
       refine hA4.x_lf (u := .int .i64 x.last) hx rfl rfl (fun cs h => by obtain ⟨_, _, rfl, -⟩ := h; rfl) fun a ha => ?_
       (refine sI ?_; try with_reducible exact True.intro)
       (intros; try refine go_st ?_); refine go_c ?_; (refine sI ?_; try with_reducible exact True.intro)
       refine gb (fun k3 => ?_) (fun k3 => ?_)
       · rw [if_pos (show findP off x = true from k3)] at hfs
         (intros; try refine go_st ?_); refine go_r 0 0 (by decide) ?_; (refine sJ c10r16.eq_1 ?_; try with_reducible exact True.intro)
         (intros; try refine go_st ?_); refine go_r 62 66 (by decide) ?_; (refine sJ c10r17.eq_1 ?_; try with_reducible exact True.intro)
         refine hA4.x_ld hx rfl rfl ?_
         rintro a1 ha1 cs hbx
         have hbx0 := hbx
         obtain ⟨Bx, dx, rfl, -⟩ := hbx
         unfold cellH
         (refine sI ?_; try with_reducible exact True.intro)
         (repeat first | (with_reducible intro _) | refine go_skip ?_ | refine go_b ?_)
         refine go_l ⟨⟨true, x, _, ⟨by rw [hfs]; exact ⟨rfl, rfl⟩, hbx0⟩, eE, rfl⟩, ⟨eE, eE, eE, eE, eE⟩, eE, eE, eE⟩
       · rw [if_neg (show ¬ findP off x = true from fun h => by rw [show findP off x = false from k3] at h; cases h)] at hfs
         (repeat first | (with_reducible intro _) | refine go_skip ?_ | refine go_b ?_)
         refine go_l ⟨⟨false, fb, V, ⟨by rw [hfs]; rfl, hbe⟩, eE, rfl⟩, ⟨eE, eE, eE, eE, eE⟩, eE, eE, eE⟩
     · rw [found_t hfo] at hfs
       dsimp only at hfs
       (intros; try refine go_st ?_); refine go_r 51 61 (by decide) ?_; (refine sJ c10r15.eq_1 ?_; try with_reducible exact True.intro)
       (intros; try refine go_st ?_); refine go_c ?_; (refine sI ?_; try with_reducible exact True.intro)
       (repeat first | (with_reducible intro _) | refine go_skip ?_ | refine go_b ?_)
       refine go_l ⟨⟨true, fb, V, ⟨by rw [hfs]; exact ⟨rfl, rfl⟩, hbe⟩, eE, rfl⟩, ⟨eE, eE, eE, eE, eE⟩, eE, eE, eE⟩
   rintro e h ⟨⟨f, fb, V, ⟨hfo, hbe⟩, e14, rfl⟩, ⟨e2, e3, e9, e10, e12⟩, e15, e17, e18⟩
   refine go_keep [2, 3, 9, 10, 12, 14, 15, 17, 18] ?_
   (try simp -implicitDefEqProofs only [kR_e, kQ_e, push_cast, Nat.reduceBEq, Nat.reduceAdd, Nat.reduceSub, Nat.reduceMul, Nat.reduceLT, Nat.reduceLeDiff, Nat.reduceEqDiff, reduceIte, Bool.not_true, Bool.not_false, true_and, and_true, Option.map_some, Option.bind_some, Int.toNat_natCast, e2, e3, e9, e10, e12, e14, e15, e17, e18])
   have hfm : (bs.take (k + 1)).flatMap Batch.recs = (bs.take k).flatMap Batch.recs ++ x.recs := by rw [take_snoc hx]; simp
   (repeat (with_reducible intro _))
   (intros; try refine go_st ?_); refine go_r 0 0 (by decide) ?_; (refine sJ c10r18.eq_1 ?_; try with_reducible exact True.intro)
   (intros; try refine go_st ?_)
   refine go_loop (fun e h => ∃ (j : Nat) (g : Bool) (at_ : Int), (j ≤ x.recs.length ∧ ToldIs (((bs.take k).flatMap Batch.recs ++ x.recs.take j).find? (recP stamp)) g at_) ∧ (e 2 = .int .i64 off ∧ e 3 = .int .i64 stamp ∧ e 9 = .bool true ∧ e 10 = .slice A2 l.length c2 ∧ e 12 = .slice A4 bs.length c4) ∧ e 14 = .bool f ∧ e 15 = .bool g ∧ e 17 = .int .i64 at_ ∧ e 18 = .int .i64 k ∧ e 19 = .int .i64 j ∧ h = ⟨G4, [.reg 16 (cellH fb V), .reg 4 [.int .i64 s.base, .slice A s.bytes.length c]], []⟩) (fun e h => x.recs.length - iv (e 19)) ?_ ?_
   · exact ⟨0, g, at_, ⟨Nat.zero_le _, by rw [List.take_zero, List.append_nil]; exact hto⟩, ⟨eE, eE, eE, eE, eE⟩, eE, eE, eE, eE, eE, rfl⟩
   rintro e h ⟨j, g, at_, ⟨hj, hto⟩, ⟨e2, e3, e9, e10, e12⟩, e14, e15, e17, e18, e19, rfl⟩
   refine go_keep [2, 3, 9, 10, 12, 14, 15, 17, 18, 19] ?_
   (try simp -implicitDefEqProofs only [kR_e, kQ_e, push_cast, Nat.reduceBEq, Nat.reduceAdd, Nat.reduceSub, Nat.reduceMul, Nat.reduceLT, Nat.reduceLeDiff, Nat.reduceEqDiff, reduceIte, Bool.not_true, Bool.not_false, true_and, and_true, Option.map_some, Option.bind_some, Int.toNat_natCast, e2, e3, e9, e10, e12, e14, e15, e17, e18, e19])
   (intros; try refine go_st ?_); refine go_r 66 73 (by decide) ?_; (refine sJ c10r19.eq_1 ?_; try with_reducible exact True.intro)
   refine recs_ld hA4 hx rfl rfl ?_
   rintro a1 B1 d1 ha1 ⟨hBc, hBm, hBA⟩
   (refine sI ?_; try with_reducible exact True.intro)
   (intros; try refine go_st ?_); refine go_c ?_; (refine sI ?_; try with_reducible exact True.intro)
   refine gb (fun k4 => ?_) (fun k4 => ?_)
   · have hjl : j < x.recs.length := by have := of_decide_eq_true k4; omega
     have hwj := inc_i j d1 (by omega) hBm
     obtain ⟨r, hr⟩ : ∃ r, x.recs[j]? = some r := ⟨x.recs[j], List.getElem?_eq_getElem hjl⟩
     have hts := find_snoc (recP stamp) ((bs.take k).flatMap Batch.recs ++ x.recs.take j) r
     rw [List.append_assoc, ← take_snoc hr] at hts
     (repeat (with_reducible intro _)); try refine go_seq ?_
     try refine go_skip ?_
     (repeat (with_reducible intro _)); try refine go_seq ?_
     refine go_cut (fun e h => (∃ (g : Bool) (at_ : Int), ToldIs (((bs.take k).flatMap Batch.recs ++ x.recs.take (j + 1)).find? (recP stamp)) g at_ ∧ e 15 = .bool g ∧ e 17 = .int .i64 at_) ∧ (e 2 = .int .i64 off ∧ e 3 = .int .i64 stamp ∧ e 9 = .bool true ∧ e 10 = .slice A2 l.length c2 ∧ e 12 = .slice A4 bs.length c4) ∧ e 14 = .bool f ∧ e 18 = .int .i64 k ∧ e 19 = .int .i64 j ∧ h = ⟨G4, [.reg 16 (cellH fb V), .reg 4 [.int .i64 s.base, .slice A s.bytes.length c]], []⟩) ?_ ?_
     · cases g
       · rw [(told_f hto).1] at hts
         dsimp only at hts
         (intros; try refine go_st ?_); refine go_r 76 90 (by decide) ?_; (refine sJ c10r20.eq_1 ?_; try with_reducible exact True.intro)
         refine recs_ld hA4 hx rfl rfl ?_
         rintro a2 B2 d2 ha2 ⟨hBc2, hBm2, hBA2⟩
         (refine sI ?_; try with_reducible exact True.intro)
         refine hBA2.x_lf (u := .int .i64 r.stamp) hr rfl rfl (fun cs h => by obtain ⟨rfl, -⟩ := h; rfl) fun a ha => ?_
         (refine sI ?_; try with_reducible exact True.intro)
         (intros; try refine go_st ?_); refine go_c ?_; (refine sI ?_; try with_reducible exact True.intro)
         refine gb (fun k5 => ?_) (fun k5 => ?_)
         · rw [if_pos (show recP stamp r = true from k5)] at hts
           (intros; try refine go_st ?_); refine go_r 0 0 (by decide) ?_; (refine sJ c10r21.eq_1 ?_; try with_reducible exact True.intro)
           (intros; try refine go_st ?_); refine go_r 91 100 (by decide) ?_; (refine sJ c10r22.eq_1 ?_; try with_reducible exact True.intro)
           refine recs_ld hA4 hx rfl rfl ?_
           rintro a3 B3 d3 ha3 ⟨hBc3, hBm3, hBA3⟩
           (refine sI ?_; try with_reducible exact True.intro)
           refine hBA3.x_lf (u := .int .i64 r.off) hr rfl rfl (fun cs h => by obtain ⟨rfl, -⟩ := h; rfl) fun a ha => ?_
           (refine sI ?_; try with_reducible exact True.intro)
           (repeat first | (with_reducible intro _) | refine go_skip ?_ | refine go_b ?_)
           refine go_l ⟨⟨true, r.off, by rw [hts]; exact ⟨rfl, rfl⟩, eE, eE⟩, ⟨eE, eE, eE, eE, eE⟩, eE, eE, eE, rfl⟩
         · rw [if_neg (show ¬ recP stamp r = true from fun h => by rw [show recP stamp r = false from k5] at h; cases h)] at hts
           (repeat first | (with_reducible intro _) | refine go_skip ?_ | refine go_b ?_)
           refine go_l ⟨⟨false, at_, by rw [hts]; exact ⟨rfl, (told_f hto).2⟩, eE, eE⟩, ⟨eE, eE, eE, eE, eE⟩, eE, eE, eE, rfl⟩
       · obtain ⟨r0, h1, h2⟩ := told_t hto
         rw [h1] at hts
         dsimp only at hts
         (intros; try refine go_st ?_); refine go_r 76 90 (by decide) ?_; (refine sJ c10r20.eq_1 ?_; try with_reducible exact True.intro)
         (intros; try refine go_st ?_); refine go_c ?_; (refine sI ?_; try with_reducible exact True.intro)
         (repeat first | (with_reducible intro _) | refine go_skip ?_ | refine go_b ?_)
         refine go_l ⟨⟨true, at_, by rw [hts]; exact ⟨rfl, h2⟩, eE, eE⟩, ⟨eE, eE, eE, eE, eE⟩, eE, eE, eE, rfl⟩
     rintro e h ⟨⟨g, at_, hto, e15, e17⟩, ⟨e2, e3, e9, e10, e12⟩, e14, e18, e19, rfl⟩
     refine go_keep [2, 3, 9, 10, 12, 14, 15, 17, 18, 19] ?_
     (try simp -implicitDefEqProofs only [kR_e, kQ_e, push_cast, Nat.reduceBEq, Nat.reduceAdd, Nat.reduceSub, Nat.reduceMul, Nat.reduceLT, Nat.reduceLeDiff, Nat.reduceEqDiff, reduceIte, Bool.not_true, Bool.not_false, true_and, and_true, Option.map_some, Option.bind_some, Int.toNat_natCast, e2, e3, e9, e10, e12, e14, e15, e17, e18, e19])
     (repeat (with_reducible intro _))
     (intros; try refine go_st ?_); refine go_r 74 76 (by decide) ?_; (refine sJ2 c10r23.eq_1 @hwj ?_; try with_reducible exact True.intro)
     (intros; try refine go_st ?_)
     refine go_l ⟨⟨j + 1, g, at_, ⟨by omega, hto⟩, ⟨eE, eE, eE, eE, eE⟩, eE, eE, eE, eE, eE, rfl⟩, ?_⟩
     (refine sI ?_; try with_reducible exact True.intro)
     omega
   · have hjl : j = x.recs.length := by have := of_decide_eq_false k4; omega
     subst hjl
     rw [List.take_length, ← hfm] at hto
     refine go_exit ?_
     (refine sI ?_; try with_reducible exact True.intro)
     (repeat first | (with_reducible intro _) | refine go_skip ?_ | refine go_b ?_)
     (intros; try refine go_st ?_); refine go_r 49 51 (by decide) ?_; (refine sJ2 c10r24.eq_1 @hw ?_; try with_reducible exact True.intro)
     (intros; try refine go_st ?_)
     refine go_l ⟨⟨k + 1, f, g, fb, V, at_, ⟨by omega, hfo, hbe, hto⟩, ⟨eE, eE, eE, eE, eE⟩, eE, eE, eE, eE, rfl⟩, ?_⟩
     (refine sI ?_; try with_reducible exact True.intro)
     omega
 have hkl : k = bs.length := by have := of_decide_eq_false k2; omega
 subst hkl
 rw [List.take_length] at hfo hto
 refine go_exit ?_
 (refine sI ?_; try with_reducible exact True.intro)
 (repeat first | (with_reducible intro _) | refine go_skip ?_ | refine go_b ?_)
 (intros; try refine go_st ?_); refine go_r 100 107 (by decide) ?_; (refine sJ c10r25.eq_1 ?_; try with_reducible exact True.intro)
 refine (hfi _ _).mono ?_
 rintro r h' ⟨G5, rfl, hg5, csb, rfl, hbb⟩
 have hbb0 := hbb
 obtain ⟨Bb, db, rfl, -⟩ := hbb
 unfold cellH at hbb0 hbe ⊢
 have hsi := hsi _ hg5
 have hsm := Same_ok _ _ _ _ G5 (BE.le hg5 hbe) hbb0
 (refine sI ?_; try with_reducible exact True.intro)
 (intros; try refine go_st ?_); refine go_r 107 114 (by decide) ?_; (refine sJ c10r26.eq_1 ?_; try with_reducible exact True.intro)
 refine (hsi _ _).mono ?_; rintro _ _ ⟨rfl, rfl⟩; (refine sI ?_; try with_reducible exact True.intro)
 have m1 : decide ((90 : Int) = 0) = false := by decide
 have m2 : decide ((90 : Int) ≠ 90) = false := by decide
 have m3 : decide ((0 : Int) = 0) = true := by decide
 have m4 : (!(false == false)) = false := rfl
 have m5 : (!(true == true)) = false := rfl
 cases f
 · rw [found_f hfo]
   cases g
   · obtain ⟨h1, h2⟩ := told_f hto
     rw [h1, h2]
     dsimp only
     (intros; try refine go_st ?_); refine go_r 114 139 (by decide) ?_; (try simp -implicitDefEqProofs only [kR_e, kQ_e, push_cast, Nat.reduceBEq, Nat.reduceAdd, Nat.reduceSub, Nat.reduceMul, Nat.reduceLT, Nat.reduceLeDiff, Nat.reduceEqDiff, reduceIte, Bool.not_true, Bool.not_false, true_and, and_true, Option.map_some, Option.bind_some, Int.toNat_natCast, c10r27, m1, m2, m3, m4, m5])
     (intros; try refine go_st ?_); refine go_c ?_; (refine sI ?_; try with_reducible exact True.intro)
     (repeat first | (with_reducible intro _) | refine go_skip ?_ | refine go_b ?_)
     (intros; try refine go_st ?_); refine go_r 140 155 (by decide) ?_; (refine sJ2 c10r29.eq_1 @m3 ?_; try with_reducible exact True.intro)
     (intros; try refine go_st ?_)
     refine go_ret (retQ_v rfl ?_); simp only [push_cast, Nat.reduceBEq]
   · obtain ⟨r0, h1, h2⟩ := told_t hto
     rw [h1, h2]
     dsimp only
     (intros; try refine go_st ?_); refine go_r 114 139 (by decide) ?_; (try simp -implicitDefEqProofs only [kR_e, kQ_e, push_cast, Nat.reduceBEq, Nat.reduceAdd, Nat.reduceSub, Nat.reduceMul, Nat.reduceLT, Nat.reduceLeDiff, Nat.reduceEqDiff, reduceIte, Bool.not_true, Bool.not_false, true_and, and_true, Option.map_some, Option.bind_some, Int.toNat_natCast, c10r27, m1, m2, m3, m4, m5])
     (intros; try refine go_st ?_); refine go_c ?_; (refine sI ?_; try with_reducible exact True.intro)
     (repeat first | (with_reducible intro _) | refine go_skip ?_ | refine go_b ?_)
     (intros; try refine go_st ?_); refine go_r 140 155 (by decide) ?_; (refine sJ2 c10r29.eq_1 @m3 ?_; try with_reducible exact True.intro)
     (intros; try refine go_st ?_)
     refine go_ret (retQ_v rfl ?_); simp only [push_cast, Nat.reduceBEq]
 · rw [found_t hfo] at hsm ⊢
   dsimp only at hsm
   rw [decide_eq_true rfl] at hsm
   cases g
   · obtain ⟨h1, h2⟩ := told_f hto
     rw [h1, h2]
     dsimp only
     (intros; try refine go_st ?_); refine go_r 114 139 (by decide) ?_; (try simp -implicitDefEqProofs only [kR_e, kQ_e, push_cast, Nat.reduceBEq, Nat.reduceAdd, Nat.reduceSub, Nat.reduceMul, Nat.reduceLT, Nat.reduceLeDiff, Nat.reduceEqDiff, reduceIte, Bool.not_true, Bool.not_false, true_and, and_true, Option.map_some, Option.bind_some, Int.toNat_natCast, c10r27, m1, m2, m3, m4, m5])
     (intros; try refine go_st ?_); refine go_c ?_; (refine sI ?_; try with_reducible exact True.intro)
     (repeat first | (with_reducible intro _) | refine go_skip ?_ | refine go_b ?_)
     (intros; try refine go_st ?_); refine go_r 140 155 (by decide) ?_; (refine sJ2 c10r29.eq_1 @m3 ?_; try with_reducible exact True.intro)
     refine (hsm _ _).mono ?_; rintro _ _ ⟨rfl, rfl⟩; (refine sI ?_; try with_reducible exact True.intro)
     (intros; try refine go_st ?_)
     refine go_ret (retQ_v rfl ?_); simp only [push_cast, Nat.reduceBEq]
   · obtain ⟨r0, h1, h2⟩ := told_t hto
     rw [h1, h2]
     dsimp only
     (intros; try refine go_st ?_); refine go_r 114 139 (by decide) ?_; (try simp -implicitDefEqProofs only [kR_e, kQ_e, push_cast, Nat.reduceBEq, Nat.reduceAdd, Nat.reduceSub, Nat.reduceMul, Nat.reduceLT, Nat.reduceLeDiff, Nat.reduceEqDiff, reduceIte, Bool.not_true, Bool.not_false, true_and, and_true, Option.map_some, Option.bind_some, Int.toNat_natCast, c10r27, m1, m2, m3, m4, m5])
     (intros; try refine go_st ?_); refine go_c ?_; (refine sI ?_; try with_reducible exact True.intro)
     (repeat first | (with_reducible intro _) | refine go_skip ?_ | refine go_b ?_)
     (intros; try refine go_st ?_); refine go_r 140 155 (by decide) ?_; (refine sJ2 c10r29.eq_1 @m3 ?_; try with_reducible exact True.intro)
     refine (hsm _ _).mono ?_; rintro _ _ ⟨rfl, rfl⟩; (refine sI ?_; try with_reducible exact True.intro)
     (intros; try refine go_st ?_)
     refine go_ret (retQ_v rfl ?_); simp only [push_cast, Nat.reduceBEq]
end Go.Proofs.Ytedljandnpigpaa

/- Parts of a proof, 22 texts in one file. No condition. -/
import Derived.Test.YtedljandnpigpaaM1
import Derived.Test.YtedljandnpigpaaM2
import Derived.Test.YtedljandnpigpaaM3
import Derived.Test.YtedljandnpigpaaM4
import Derived.Test.YtedljandnpigpaaM5
import Derived.Test.YtedljandnpigpaaM6
import Derived.Test.YtedljandnpigpaaM7
set_option linter.unusedSimpArgs false
set_option linter.unusedVariables false
namespace Go.Proofs.Ytedljandnpigpaa
open Go Go.Kx
theorem F43 : Fun Try.prog 43 4 v43 c43 o43 := Fun.mk' Try.func43 Try.ntmps43 (by kernel_rfl) (by kernel_rfl) s43 q43
theorem F58 : Fun Try.prog 58 37 v58 c58 o58 := Fun.mk' Try.func58 Try.ntmps58 (by kernel_rfl) (by kernel_rfl) s58 q58
theorem F27 : Fun Try.prog 27 17 v27 c27 o27 := Fun.mk' Try.func27 Try.ntmps27 (by kernel_rfl) (by kernel_rfl) s27 q27
theorem F47 : Fun Try.prog 47 15 v47 c47 o47 := Fun.mk' Try.func47 Try.ntmps47 (by kernel_rfl) (by kernel_rfl) s47 q47
theorem rmR_no {s : Nat} : ∀ {L : List Kx.Item}, NoRegs L → rmR s L = L
 | [], _ => rfl
 | .reg s' cs :: L, h => absurd (.head _) (h s' cs)
 | .blk b cs :: L, h => congrArg (Kx.Item.blk b cs :: ·) (rmR_no (s := s) fun s cs hm => h s cs (.tail _ hm))
 | .row v e sz n xs :: L, h => congrArg (Kx.Item.row v e sz n xs :: ·) (rmR_no (s := s) fun s cs hm => h s cs (.tail _ hm))
 | .obj b o :: L, h => congrArg (Kx.Item.obj b o :: ·) (rmR_no (s := s) fun s cs hm => h s cs (.tail _ hm))
theorem gx_ne {h : H} {b b' : Nat} {c c' : List Value} (hs : List.Sublist [Kx.Item.blk b c, .blk b' c'] h.L) : GhostX h fun h' => h' = h ∧ ¬ b = b' := GhostX.fact fun β w s => by
 have hd : (dom β [Kx.Item.blk b c, .blk b' c']).Sublist (dom β h.L) := hs.filterMap _
 have := hd.nodup (List.nodup_append.1 s.nd).1
 simpa [dom, Item.block] using this
theorem cells_imp {α : Type} {E E' : α → List Value → Prop} {sz : Nat} {xs : List α} {ys : List Value} (h : Cells E sz xs ys) (hE : ∀ x cs, E x cs → E' x cs) : Cells E' sz xs ys := by
 induction h with
 | nil => exact .nil
 | cons h1 h2 _ ih => exact .cons (hE _ _ h1) h2 ih
def cellS (s : Sg) (A : Option Addr) (c : Nat) : List Value := [.int .i64 s.base, .slice A s.bytes.length c]
def SE (G : Nat → Option Obj) (s : Sg) (cs : List Value) : Prop := ∃ A c, cs = cellS s A c ∧ SB G (.slice A s.bytes.length c) s.bytes ∧ I64 s.base
theorem SE.le {G G' : Nat → Option Obj} (hg : Gle G G') {s : Sg} {cs : List Value} (h : SE G s cs) : SE G' s cs := by
 obtain ⟨A, c, h1, h2, h3⟩ := h
 exact ⟨A, c, h1, SB.le h2 hg, h3⟩
def EB (bs : List Batch) (G : Nat → Option Obj) (k : Nat) (args : Array Value) : Prop := ∃ x cs, bs[k]? = some x ∧ BE G x cs ∧ args = #[.agg cs.toArray, .int .i64 (((allB (bs.take (k + 1))).length : Nat) : Int)]
theorem last_i {x : Batch} (h : errB x = 0) : IntKind.i64.wrap (x.last + 1) = x.last + 1 := by
 obtain ⟨⟨-, f2, -⟩, -⟩ := (errB_ok h).1
 simp [rng] at f2
 rw [w64_id] <;> omega
theorem range_at {n k i : Nat} (h : (List.range n)[k]? = some i) : i = k ∧ k < n := by
 have h1 := (List.getElem?_eq_some_iff.1 h).1
 rw [List.length_range] at h1
 rw [List.getElem?_range h1] at h
 cases h
 exact ⟨rfl, h1⟩
theorem each1_iter (s : Sg) (A : Option Addr) (c b : Nat) (G0 : Nat → Option Obj) (hl : SB G0 (.slice A s.bytes.length c) s.bytes) (hb : s.bytes.length ≤ 1000000) (h0 : cellG G0 ⟨b, 0, none⟩ = some (.int .i64 s.base)) (h1 : cellG G0 ⟨b, 1, none⟩ = some (.slice A s.bytes.length c)) :
   IterH Try.prog 58 #[.pointer (some ⟨b, 0, none⟩)] (List.range (scanB s).length) (EB (scanB s)) G0 := by
 obtain ⟨r, hsc⟩ := scan_spec s
 generalize scanB s = bs at hsc
 intro yl I Ix G L hG hn hI hIx hmo hi0 hy L2 D
 have hargs : (#[.func (.yield yl) #[] #[]] ++ #[.pointer (some ⟨b, 0, none⟩)] : Array Value) = #[.func (.yield yl) #[] #[], .pointer (some ⟨b, 0, none⟩)] := rfl
 rw [hargs, List.length_range]
 refine (F58.calls (R := fun _ h => Gle G h.G ∧ (I bs.length h.G h.L ∨ ∃ i, i < bs.length ∧ Ix i h.G h.L)) (by simp) hn (go_of ?_) L2 D).mono ?_
 rotate_left
 · rintro v h' ⟨G', L', rfl, hn', hgg, hr⟩
   exact ⟨G', L', rfl, hgg, hn', hr⟩
 have e0 := cellG_le hG h0
 have e1 := cellG_le hG h1
 have hlG := SB.le hl hG
 have hlen := hsc.len
 unfold c58
 (intros; try refine go_st ?_); refine go_q 8 10 (by decide) ?_; (refine sJ c58r0.eq_1 ?_; try with_reducible exact True.intro)
 refine ⟨_, ⟨_, rfl, .g e0⟩, ?_⟩
 (refine sI ?_; try with_reducible exact True.intro)
 (intros; try refine go_st ?_)
 refine go_loop (fun e h => ∃ (t : Nat) (G' : Nat → Option Obj) (L' Lh : List Kx.Item), (t ≤ bs.length ∧ Gle G G' ∧ NoRegs L' ∧ I t G' L') ∧ e 3 = .int .i64 (((allB (bs.take t)).length : Nat) : Int) ∧ e 4 = .int .i64 (nextB s.base (bs.take t)) ∧ e 0 = .func (.yield yl) #[] #[] ∧ e 1 = .pointer (some ⟨b, 0, none⟩) ∧ h = ⟨G', Lh, []⟩ ∧ L'.Sublist Lh) (fun e h => s.bytes.length + 1 - iv (e 3)) ?_ ?_
 · exact ⟨0, G, L, L, ⟨Nat.zero_le _, .refl G, hn, hi0⟩, rfl, rfl, eE, eE, rfl, List.Sublist.refl _⟩
 rintro e h ⟨t, G', L', Lh, ⟨ht, hgg, hn', hI'⟩, e3, e4, e00, e11, rfl, hsub⟩
 refine go_keep [0, 1, 3, 4] ?_
 (refine sJ4 @e00 @e11 @e3 @e4 ?_; try with_reducible exact True.intro)
 (repeat (with_reducible intro _))
 refine go_ghost (ghost_sub hsub) ?_
 have hrm := rmR_no (s := 5) hn'
 have e1' := cellG_le hgg e1
 have hget := BGet_ok s.bytes (((allB (bs.take t)).length : Nat) : Int) _ G' (SB.le hlG hgg) hb
 unfold GetBR at hget
 have htk := allB_take_le bs t
 have hw1 : IntKind.i64.wrap (((allB (bs.take t)).length : Nat) : Int) = (((allB (bs.take t)).length : Nat) : Int) := by rw [w64_id] <;> omega
 (intros; try refine go_st ?_); refine go_r 10 18 (by decide) ?_; (refine sJ c58r1.eq_1 ?_; try with_reducible exact True.intro)
 refine ⟨_, ⟨_, rfl, .g e1'⟩, ?_⟩
 (refine sI ?_; try with_reducible exact True.intro)
 refine (hget _ _).mono ?_
 rintro v h' ⟨G1, rfl, hg1, cs, rfl, hbe⟩
 by_cases htl : t < bs.length
 · obtain ⟨x, hx⟩ : ∃ x, bs[t]? = some x := ⟨bs[t], List.getElem?_eq_getElem htl⟩
   obtain ⟨a1, a2, a3, a4⟩ := hsc.at_ hx
   rw [a1] at hbe ⊢
   dsimp only at hbe ⊢
   have hbe0 := hbe
   obtain ⟨B, d, rfl, -⟩ := hbe
   have hlt : (allB (bs.take t)).length < (allB (bs.take (t + 1))).length := by
     have := bytesB_pos x
     rw [allB_take hx, List.length_append]
     omega
   have hle := allB_take_le bs (t + 1)
   have hEB : EB bs G1 t #[.agg (cellH x (.slice B x.recs.length d)).toArray, .int .i64 (((allB (bs.take (t + 1))).length : Nat) : Int)] := ⟨x, _, hx, hbe0, rfl⟩
   unfold cellH at hbe0 hEB ⊢
   generalize hn1 : (allB (bs.take (t + 1))).length = n1 at *
   generalize (allB (bs.take t)).length = n0 at *
   have a2' : decide (x.base < nextB s.base (bs.take t)) = false := decide_eq_false (by omega)
   have hlw := last_i a4
   (refine sJ @hrm ?_; try with_reducible exact True.intro)
   have hz : decide ((0 : Int) ≠ 0) = false := by decide
   (intros; try refine go_st ?_); refine go_r 18 32 (by decide) ?_; (refine sJ3 c58r2.eq_1 @hz @a2' ?_; try with_reducible exact True.intro)
   refine .inr ⟨yl, rfl, ?_⟩
   refine YieldH.ghost (ghost_perm (List.perm_append_comm (l₁ := [_]))) ?_
   refine (hy t t _ G1 L' (List.getElem?_range htl) (hgg.trans hg1) hEB (hmo _ _ _ _ hg1 hI') [_] []).mono ?_
   rintro v h' ⟨G2, L3, rfl, hg2, hn2, hr⟩
   rcases hr with ⟨rfl, hr⟩ | ⟨rfl, hr⟩
   · (refine sI ?_; try with_reducible exact True.intro)
     (intros; try refine go_st ?_); refine go_c ?_; (refine sI ?_; try with_reducible exact True.intro)
     refine go_ghost (ghost_perm (List.perm_append_comm (l₂ := [_]))) ?_
     (intros; try refine go_st ?_); refine go_q 33 37 (by decide) ?_; (refine sJ2 c58r3.eq_1 @hlw ?_; try with_reducible exact True.intro)
     (intros; try refine go_st ?_)
     refine go_l ⟨⟨t + 1, G2, L3, _, ⟨by omega, (hgg.trans hg1).trans hg2, hn2, hr⟩, (eJ @hn1), (eJ @a3), eE, eE, rfl, .cons _ (List.Sublist.refl _)⟩, ?_⟩
     (refine sI ?_; try with_reducible exact True.intro)
     omega
   · (refine sI ?_; try with_reducible exact True.intro)
     (intros; try refine go_st ?_); refine go_c ?_; (refine sI ?_; try with_reducible exact True.intro)
     (intros; try refine go_st ?_)
     refine go_ret (retQ_o L3 rfl (List.sublist_append_left _ _) hn2 ?_)
     exact ⟨(hgg.trans hg1).trans hg2, .inr ⟨t, htl, hr⟩⟩
 · have htl : t = bs.length := by omega
   subst htl
   rw [List.take_length] at hget hbe ⊢
   have hend := hsc.end_
   generalize getB s.bytes (((allB bs).length : Nat) : Int) = q at *
   obtain ⟨x, nx, er⟩ := q
   dsimp only at hbe hend ⊢
   obtain ⟨B, d, rfl, -⟩ := hbe
   unfold cellH
   have hfin : Gle G G1 ∧ (I bs.length G1 L' ∨ ∃ i, i < bs.length ∧ Ix i G1 L') := ⟨hgg.trans hg1, .inl (hmo _ _ _ _ hg1 hI')⟩
   (refine sJ @hrm ?_; try with_reducible exact True.intro)
   (intros; try refine go_st ?_); refine go_r 18 32 (by decide) ?_; (refine sJ c58r2.eq_1 ?_; try with_reducible exact True.intro)
   refine gd (fun k1 => ?_) (fun k1 => ?_)
   · (refine sI ?_; try with_reducible exact True.intro)
     (intros; try refine go_st ?_); refine go_c ?_; (refine sI ?_; try with_reducible exact True.intro)
     (intros; try refine go_st ?_)
     exact go_ret (retQ_o L' rfl (.cons _ (List.Sublist.refl _)) hn' hfin)
   · have k1 : er = 0 := by simpa using k1
     have k2 : decide (x.base < nextB s.base bs) = true := decide_eq_true (by rcases hend with h | h; exact absurd k1 h; exact h)
     (refine sJ @k2 ?_; try with_reducible exact True.intro)
     (intros; try refine go_st ?_); refine go_c ?_; (refine sI ?_; try with_reducible exact True.intro)
     (intros; try refine go_st ?_)
     exact go_ret (retQ_o L' rfl (.cons _ (List.Sublist.refl _)) hn' hfin)
theorem each_ok (s : Sg) (cs : List Value) (G : Nat → Option Obj) (hs : SE G s cs) (hb : s.bytes.length ≤ 1000000) :
   FnD Try.prog 43 #[.agg cs.toArray] G (fun G' r => ∃ b, r = .func (.func 58) #[] #[.pointer (some ⟨b, 0, none⟩)] ∧ IterH Try.prog 58 #[.pointer (some ⟨b, 0, none⟩)] (List.range (scanB s).length) (EB (scanB s)) G') := by
 obtain ⟨A, c, rfl, hl, hi⟩ := hs
 refine F43.fnD (by simp) (go_of ?_)
 unfold c43 cellS
 (intros; try refine go_st ?_); refine go_r 0 0 (by decide) ?_; (refine sJ c43r0.eq_1 ?_; try with_reducible exact True.intro)
 intro b1 hb1
 (intros; try refine go_st ?_)
 refine go_gx gx_blk ?_
 rintro h' ⟨G1, rfl, hg1, hc1⟩
 have e0 := hc1 0 _ rfl
 have e1 := hc1 1 _ rfl
 rw [add_off] at e0 e1
 (intros; try refine go_st ?_); refine go_r 3 4 (by decide) ?_; (refine sJ c43r1.eq_1 ?_; try with_reducible exact True.intro)
 (intros; try refine go_st ?_)
 refine go_ret (retQ_v rfl ?_); simp only [push_cast, Nat.reduceBEq]
 exact ⟨b1, rfl, each1_iter s A c b1 G1 (SB.le hl hg1) hb e0 e1⟩
def ScanR (s : Sg) (G' : Nat → Option Obj) (L' : List Kx.Item) (r : Value) : Prop := ∃ u zc, r = .tuple #[u, .int .i64 ((goodB s : Nat) : Int)] ∧ Cells (BE G') 10 (scanB s) zc ∧ L' = [.row u 38 10 (scanB s).length zc]
theorem Scan_ok (s : Sg) (cs : List Value) (G : Nat → Option Obj) (hs : SE G s cs) (hb : s.bytes.length ≤ 1000000) : FnO Try.prog 27 #[.agg cs.toArray] G [] (fun G' L' r => ScanR s G' L' r) := by
 have hs0 := hs
 obtain ⟨A, c, rfl, hl, hi⟩ := hs
 refine F27.fnO (by simp) noRegs_nil (go_of ?_)
 unfold c27
 unfold cellS at hs0 ⊢
 (intros; try refine go_st ?_); refine go_r 0 0 (by decide) ?_; (refine sJ c27r0.eq_1 ?_; try with_reducible exact True.intro)
 intro b1 hb1 b2 hb2 b3 hb3
 (intros; try refine go_st ?_)
 refine go_gx (gx_blk_at [_, _] _) ?_
 rintro h' ⟨G1, rfl, hg1, f1⟩
 have e0 := f1 0 _ rfl
 have e1 := f1 1 _ rfl
 rw [add_off] at e0 e1
 (intros; try refine go_st ?_); refine go_r 6 7 (by decide) ?_; (refine sJ c27r1.eq_1 ?_; try with_reducible exact True.intro)
 refine ⟨_, ⟨_, [.int .i64 s.base, .slice A s.bytes.length c], rfl, rfl, rfl, fun j u hu => .g (f1 j u hu)⟩, ?_⟩
 (refine sI ?_; try with_reducible exact True.intro)
 refine (each_ok s _ G1 (SE.le hg1 hs0) hb _ _).mono ?_
 rintro r h' ⟨G2, rfl, hg2, b, rfl, hit⟩
 obtain ⟨rr, hsc⟩ := scan_spec s
 have hSR : ∀ G' u zc, Cells (BE G') 10 (scanB s) zc → ScanR s G' [.row u 38 10 (scanB s).length zc] (.tuple #[u, .int .i64 (((allB (scanB s)).length : Nat) : Int)]) := fun G' u zc h => ⟨u, zc, rfl, h, rfl⟩
 generalize scanB s = bs at hit hsc hSR
 have hlen := hsc.len
 (refine sI ?_; try with_reducible exact True.intro)
 (intros; try refine go_st ?_)
 refine go_ghost (ghost_nil none 38 10) ?_
 refine go_rf (α := Nat) (fun k G' L' => ∃ u zc, L' = [.row u 38 10 (bs.take k).length zc, .blk b3 [.int .i64 (((allB (bs.take k)).length : Nat) : Int)], .blk b2 [u]] ∧ Cells (BE G') 10 (bs.take k) zc) (fun _ _ _ _ => False) (eE) F58.enters (noRegs_row (noRegs_blk (noRegs_blk noRegs_nil)))
   (fun i G G' L hg ⟨u, zc, h1, h2⟩ => ⟨u, zc, h1, cells_imp h2 fun _ _ h => BE.le hg h⟩) hit (fun G x args h => by obtain ⟨y, _, _, _, rfl⟩ := h; rfl) ⟨_, [], rfl, .nil⟩ ?_ ?_ ?_
 · rintro yl k i args G' L' hki hgl ⟨x, cs, hx, hbe, rfl⟩ ⟨u, zc, rfl, hzc⟩ _
   obtain ⟨rfl, hkl⟩ := range_at hki
   have hbe0 := hbe
   obtain ⟨B, d, rfl, -⟩ := hbe
   unfold cellH at hbe0 ⊢
   (refine sI ?_; try with_reducible exact True.intro)
   (intros; try refine go_st ?_); refine go_r 0 0 (by decide) ?_; (refine sJ c27r2.eq_1 ?_; try with_reducible exact True.intro)
   (intros; try refine go_st ?_); refine go_r 0 0 (by decide) ?_; (refine sJ c27r3.eq_1 ?_; try with_reducible exact True.intro)
   intro bb
   refine go_nil (rnd_a ?_)
   have htk : bs.take (i + 1) = bs.take i ++ [x] := by rw [List.take_add_one, hx]; rfl
   have hkl2 : (bs.take i).length ≤ bs.length := by rw [List.length_take]; omega
   (intros; try refine go_st ?_); refine go_r 10 15 (by decide) ?_; (refine sJ c27r4.eq_1 ?_; try with_reducible exact True.intro)
   refine ⟨_, ldN_blk (.tail _ (.tail _ (.tail _ (.head _)))) rfl, ?_⟩
   (refine sI ?_; try with_reducible exact True.intro)
   intro bk hbk
   refine app1 (L1 := [_]) (L2 := [_, _]) (E := BE G') (x := x) rfl hbe0 rfl (by simp [Value.oneCell']) hzc (by omega) (by omega) fun A' c' zc' hzc' => ?_
   rw [← htk] at hzc' ⊢
   (refine sI ?_; try with_reducible exact True.intro)
   refine stX_blk [_, _, _, _] [] rfl (by simp) ⟨rfl, rfl⟩ ?_
   (refine sI ?_; try with_reducible exact True.intro)
   refine stX_blk [_, _, _] [_] rfl (by simp) ⟨rfl, rfl⟩ ?_
   (refine sI ?_; try with_reducible exact True.intro)
   (intros; try refine go_st ?_)
   refine go_nil (rnd_n _ (.cons _ (.cons _ (List.Sublist.refl _))) (noRegs_row (noRegs_blk (noRegs_blk noRegs_nil))) ⟨_, zc', rfl, hzc'⟩)
 · rintro G' L' dd hgl ⟨u, zc, rfl, hzc⟩ _
   rw [List.length_range] at hzc ⊢
   rw [List.take_length] at hzc ⊢
   (intros; try refine go_st ?_)
   refine go_gx (gx_knowS (.head _)) ?_
   rintro h' ⟨rfl, A2, c2, rfl, -, -⟩
   refine go_gx (gx_ne (.cons _ (List.Sublist.refl _))) ?_
   rintro h' ⟨rfl, hne⟩
   (intros; try refine go_st ?_); refine go_w _ (List.Sublist.refl _) (by decide) ?_; (refine sJ c27r5.eq_1 ?_; try with_reducible exact True.intro)
   refine ⟨_, ldN_blk (.tail _ (.tail _ (.head _))) rfl, ?_⟩
   (refine sI ?_; try with_reducible exact True.intro)
   refine ⟨_, ldN_blk (.tail _ (.head _)) rfl, ?_⟩
   (refine sI ?_; try with_reducible exact True.intro)
   refine stX_blk [_, _] [] rfl (by simp) ⟨rfl, rfl⟩ ?_
   (refine sI ?_; try with_reducible exact True.intro)
   refine stX_blk [_] [_] rfl (by simp) ⟨rfl, rfl⟩ ?_
   (refine sI ?_; try with_reducible exact True.intro)
   (intros; try refine go_st ?_)
   refine go_ret (retQ_o (out := [.slice A2 bs.length c2, .int .i64 (((allB bs).length : Nat) : Int)]) _ ?_ (.cons_cons _ (List.nil_sublist _)) (noRegs_row noRegs_nil) (hSR G' _ _ hzc))
   simp [o27, resV, Kx.getB, blkO, ldC, Env.set, hne]
 · rintro ex i G' L' d _ _ h
   exact h.elim
theorem nextB_at {bs : List Batch} {k : Nat} {x : Batch} (nx : Int) (hx : bs[k]? = some x) : nextB nx (bs.take (k + 1)) = x.last + 1 := by
 rw [List.take_add_one, hx]
 show nextB nx (bs.take k ++ [x]) = _
 rw [nextB_app]
 rfl
theorem End_ok (s : Sg) (cs : List Value) (G : Nat → Option Obj) (hs : SE G s cs) (hb : s.bytes.length ≤ 1000000) : FnS Try.prog 47 #[.agg cs.toArray] G (.int .i64 (endB s)) := by
 have hs0 := hs
 obtain ⟨A, c, rfl, hl, hi⟩ := hs
 refine F47.fnS (by simp) (go_of ?_)
 unfold c47
 unfold cellS at hs0 ⊢
 (intros; try refine go_st ?_); refine go_r 0 0 (by decide) ?_; (refine sJ c47r0.eq_1 ?_; try with_reducible exact True.intro)
 intro b1 hb1
 (intros; try refine go_st ?_)
 refine go_gx gx_blk ?_
 rintro h' ⟨G1, rfl, hg1, f1⟩
 have e0 := f1 0 _ rfl
 rw [add_off] at e0
 (intros; try refine go_st ?_); refine go_r 5 7 (by decide) ?_; (refine sJ c47r1.eq_1 ?_; try with_reducible exact True.intro)
 refine ⟨_, ⟨_, rfl, .g e0⟩, ?_⟩
 (refine sI ?_; try with_reducible exact True.intro)
 intro b3 hb3
 refine stX_blk [] [] rfl (by simp) ⟨rfl, rfl⟩ ?_
 (refine sI ?_; try with_reducible exact True.intro)
 (intros; try refine go_st ?_); refine go_r 7 8 (by decide) ?_; (refine sJ c47r2.eq_1 ?_; try with_reducible exact True.intro)
 refine ⟨_, ⟨_, [.int .i64 s.base, .slice A s.bytes.length c], rfl, rfl, rfl, fun j u hu => .g (f1 j u hu)⟩, ?_⟩
 (refine sI ?_; try with_reducible exact True.intro)
 refine (each_ok s _ G1 (SE.le hg1 hs0) hb _ _).mono ?_
 rintro r h' ⟨G2, rfl, hg2, b, rfl, hit⟩
 obtain ⟨rr, hsc⟩ := scan_spec s
 have hend : endB s = nextB s.base (scanB s) := rfl
 generalize scanB s = bs at hit hsc hend
 (refine sI ?_; try with_reducible exact True.intro)
 (intros; try refine go_st ?_)
 refine go_rf (α := Nat) (fun k G' L' => L' = [.blk b3 [.int .i64 (nextB s.base (bs.take k))]]) (fun _ _ _ _ => False) (eE) F58.enters (noRegs_blk noRegs_nil)
   (fun i G G' L hg h => h) hit (fun G x args h => by obtain ⟨y, _, _, _, rfl⟩ := h; rfl) rfl ?_ ?_ ?_
 · rintro yl k i args G' L' hki hgl ⟨x, cs, hx, hbe, rfl⟩ rfl _
   obtain ⟨rfl, hkl⟩ := range_at hki
   obtain ⟨B, d, rfl, -⟩ := hbe
   have hlw := last_i (hsc.ok x (List.mem_of_getElem? hx))
   unfold cellH
   (refine sI ?_; try with_reducible exact True.intro)
   (intros; try refine go_st ?_); refine go_r 0 0 (by decide) ?_; (refine sJ c47r3.eq_1 ?_; try with_reducible exact True.intro)
   intro bb
   refine go_nil (rnd_a ?_)
   (intros; try refine go_st ?_); refine go_r 12 14 (by decide) ?_; (refine sJ2 c47r4.eq_1 @hlw ?_; try with_reducible exact True.intro)
   refine stX_blk [_] [] rfl (by simp) ⟨rfl, rfl⟩ ?_
   (refine sI ?_; try with_reducible exact True.intro)
   (intros; try refine go_st ?_)
   refine go_nil (rnd_n [.blk b3 [.int .i64 (x.last + 1)]] (.cons _ (List.Sublist.refl _)) (noRegs_blk noRegs_nil) ?_)
   rw [nextB_at s.base hx]
 · rintro G' L' dd hgl rfl _
   rw [List.length_range, List.take_length, ← hend]
   (intros; try refine go_st ?_); refine go_r 14 15 (by decide) ?_; (refine sJ c47r5.eq_1 ?_; try with_reducible exact True.intro)
   refine ⟨_, ldN_blk (.head _) rfl, ?_⟩
   (refine sI ?_; try with_reducible exact True.intro)
   (intros; try refine go_st ?_)
   refine go_ret (retQ_v rfl ?_); simp only [push_cast, Nat.reduceBEq]
 · rintro ex i G' L' d _ _ h
   exact h.elim
end Go.Proofs.Ytedljandnpigpaa
namespace Go.Proofs.Ytedljandnpigpaa
open Go Go.Kx Go.RowKit
theorem opens_seg (W : World) : Opens Try.prog W 24 (SE (allG W)) := fun H enc fuel cs x hx => by
 obtain ⟨hl, hf⟩ := opens_fields Try.underlying24 (by kernel_rfl) (by kernel_rfl) hx
 obtain ⟨v0, _, _, c0, t0⟩ := hf 0 _ rfl
 obtain ⟨v1, _, _, c1, t1⟩ := hf 1 _ rfl
 obtain ⟨n0, e0, w0⟩ := (opens_int Try.underlying3).at_ t0
 obtain ⟨n1, A, c, e1, w1⟩ := (opens_bytes W).at_ t1
 cases e0; cases e1
 refine ⟨⟨n0, n1⟩, A, c, ?_, ⟨A, c, rfl, w1⟩, wf_i64 w0⟩
 match cs, hl with
 | [_, _], _ => cases c0; cases c1; rfl
end Go.Proofs.Ytedljandnpigpaa
namespace Go.Proofs.Ytedljandnpigpaa
open Go Go.Kx
theorem F45 : Fun Try.prog 45 9 v45 c45 o45 := Fun.mk' Try.func45 Try.ntmps45 (by kernel_rfl) (by kernel_rfl) s45 q45
theorem F46 : Fun Try.prog 46 9 v46 c46 o46 := Fun.mk' Try.func46 Try.ntmps46 (by kernel_rfl) (by kernel_rfl) s46 q46
theorem F51 : Fun Try.prog 51 10 v51 c51 o51 := Fun.mk' Try.func51 Try.ntmps51 (by kernel_rfl) (by kernel_rfl) s51 q51
theorem F61 : Fun Try.prog 61 27 v61 c61 o61 := Fun.mk' Try.func61 Try.ntmps61 (by kernel_rfl) (by kernel_rfl) s61 q61
theorem F48 : Fun Try.prog 48 36 v48 c48 o48 := Fun.mk' Try.func48 Try.ntmps48 (by kernel_rfl) (by kernel_rfl) s48 q48
theorem ownK_sl {α : Type} {P : Program} {f : FuncId} {args : Array Value} {G : Nat → Option Obj} {E : α → List Value → Prop} {et sz : Nat} {zs : List α} (hf : FnO P f args G [] (fun _ L' r => OwnL E et sz zs L' r)) :
   FnO P f args G [] (fun _ L' r => ∃ A c ys, r = .slice A zs.length c ∧ (zs.length ≤ c ∧ c ≤ maxLen) ∧ Cells E sz zs ys ∧ L' = [.row r et sz zs.length ys]) := fun L D =>
 (hf L D).gx fun v h' ⟨G', L', he, hg, ys, hc, hL⟩ => by
   subst he hL
   exact (gx_knowS (.head _)).mono fun h' ⟨h1, A, c, h2, h3, h4⟩ => ⟨G', _, h1, hg, A, c, ys, h2, ⟨h3, h4⟩, hc, rfl⟩
def noneS : Sg := ⟨0, []⟩
def OwnSE (p : Sg × Int) (L' : List Kx.Item) (r : Value) : Prop := ∃ u zc, r = .tuple #[.agg #[.int .i64 p.1.base, u], .int .i64 p.2] ∧ L' = [.row u 5 1 p.1.bytes.length zc] ∧ Cells UE 1 p.1.bytes zc
def limO (n : Int) : Bool := decide (1 ≤ n) && decide (n ≤ 4096)
theorem based_ok (n : Int) (G : Nat → Option Obj) : FnS Try.prog 45 #[.int .i64 n] G (.bool (inO n)) := by
 refine F45.fnS (by simp) (go_of ?_)
 unfold c45
 (intros; try refine go_st ?_); refine go_r 0 0 (by decide) ?_; (refine sJ c45r0.eq_1 ?_; try with_reducible exact True.intro)
 (intros; try refine go_st ?_); refine go_r 3 9 (by decide) ?_; (refine sJ c45r1.eq_1 ?_; try with_reducible exact True.intro)
 refine gd (fun h => ?_) (fun h => ?_)
 · have h := of_decide_eq_true h
   (refine sI ?_; try with_reducible exact True.intro)
   (intros; try refine go_st ?_)
   refine go_ret (retQ_v rfl ?_); simp only [push_cast, Nat.reduceBEq]
   rw [inO, decide_eq_true h, Bool.true_and]
 · have h := of_decide_eq_false h
   (refine sI ?_; try with_reducible exact True.intro)
   (intros; try refine go_st ?_)
   refine go_ret (retQ_v rfl ?_); simp only [push_cast, Nat.reduceBEq]
   rw [inO, decide_eq_false h, Bool.false_and]
theorem limited_ok (n : Int) (G : Nat → Option Obj) : FnS Try.prog 46 #[.int .i64 n] G (.bool (limO n)) := by
 refine F46.fnS (by simp) (go_of ?_)
 unfold c46
 (intros; try refine go_st ?_); refine go_r 0 0 (by decide) ?_; (refine sJ c46r0.eq_1 ?_; try with_reducible exact True.intro)
 (intros; try refine go_st ?_); refine go_r 3 9 (by decide) ?_; (refine sJ c46r1.eq_1 ?_; try with_reducible exact True.intro)
 refine gd (fun h => ?_) (fun h => ?_)
 · have h := of_decide_eq_true h
   (refine sI ?_; try with_reducible exact True.intro)
   (intros; try refine go_st ?_)
   refine go_ret (retQ_v rfl ?_); simp only [push_cast, Nat.reduceBEq]
   rw [limO, decide_eq_true h, Bool.true_and]
 · have h := of_decide_eq_false h
   (refine sI ?_; try with_reducible exact True.intro)
   (intros; try refine go_st ?_)
   refine go_ret (retQ_v rfl ?_); simp only [push_cast, Nat.reduceBEq]
   rw [limO, decide_eq_false h, Bool.false_and]
def newS (base : Int) : Sg × Int := if inO base = true then (⟨base, []⟩, 0) else (noneS, 1)
theorem New_ok (base : Int) (G : Nat → Option Obj) : FnO Try.prog 51 #[.int .i64 base] G [] (fun _ L' r => OwnSE (newS base) L' r) := by
 refine F51.fnO (by simp) noRegs_nil (go_of ?_)
 unfold c51
 (intros; try refine go_st ?_); refine go_r 0 0 (by decide) ?_; (refine sJ c51r0.eq_1 ?_; try with_reducible exact True.intro)
 (intros; try refine go_st ?_); refine go_r 4 6 (by decide) ?_; (refine sJ c51r1.eq_1 ?_; try with_reducible exact True.intro)
 refine (based_ok _ _ _ _).mono ?_; rintro _ _ ⟨rfl, rfl⟩; (refine sI ?_; try with_reducible exact True.intro)
 (intros; try refine go_st ?_); refine go_c ?_; (refine sI ?_; try with_reducible exact True.intro)
 refine gb (fun h => ?_) (fun h => ?_)
 · have h : ¬ inO base = true := by simpa using h
   (intros; try refine go_st ?_); refine go_r 7 8 (by decide) ?_; (refine sJ c51r2.eq_1 ?_; try with_reducible exact True.intro)
   (intros; try refine go_st ?_)
   refine go_ghost (ghost_nil none 5 1) ?_
   refine go_ret (retQ_o _ rfl (.cons_cons _ (List.nil_sublist _)) (noRegs_row noRegs_nil) ?_)
   rw [newS, if_neg h]
   exact ⟨_, [], rfl, rfl, .nil⟩
 · have h : inO base = true := by simpa using h
   (repeat first | (with_reducible intro _) | refine go_skip ?_ | refine go_b ?_)
   (intros; try refine go_st ?_); refine go_r 8 10 (by decide) ?_; (refine sJ c51r3.eq_1 ?_; try with_reducible exact True.intro)
   (intros; try refine go_st ?_)
   refine go_ghost (ghost_nil none 5 1) ?_
   refine go_ret (retQ_o _ rfl (.cons_cons _ (List.nil_sublist _)) (noRegs_row noRegs_nil) ?_)
   rw [newS, if_pos h]
   exact ⟨_, [], rfl, rfl, .nil⟩
theorem Grow_ok (n : Nat) (G : Nat → Option Obj) (hn : n ≤ 1000000) : FnO Try.prog 61 #[.slice none 0 0, .int .i64 (n : Int)] G [] (fun _ L' r => OwnB [] L' r) := by
 refine F61.fnO (by simp) noRegs_nil (go_of ?_)
 unfold c61
 have w1 : IntKind.i64.wrap ((n : Int) - IntKind.i64.wrap (0 - 0)) = (n : Int) := by simp only [IntKind.wrap_i64]; omega
 have h0 : decide ((n : Int) < 0) = false := decide_eq_false (by omega)
 (intros; try refine go_st ?_); refine go_r 0 0 (by decide) ?_; (refine sJ c61r0.eq_1 ?_; try with_reducible exact True.intro)
 (intros; try refine go_st ?_); refine go_r 5 6 (by decide) ?_; (refine sJ2 c61r1.eq_1 @h0 ?_; try with_reducible exact True.intro)
 (intros; try refine go_st ?_); refine go_c ?_; (refine sI ?_; try with_reducible exact True.intro)
 (repeat first | (with_reducible intro _) | refine go_skip ?_ | refine go_b ?_)
 (intros; try refine go_st ?_); refine go_r 8 15 (by decide) ?_; (refine sJ2 c61r2.eq_1 @w1 ?_; try with_reducible exact True.intro)
 (intros; try refine go_st ?_); refine go_r 15 16 (by decide) ?_; (refine sJ c61r3.eq_1 ?_; try with_reducible exact True.intro)
 (repeat (with_reducible intro _))
 refine go_ghost (ghost_nil none 5 1) ?_
 refine go_cut (fun e h => ∃ A c m zc Lh, e 0 = .slice A 0 c ∧ h = ⟨G, Lh, []⟩ ∧ [Kx.Item.row (.slice A m c) 5 1 m zc].Sublist Lh) ?_ ?_
 · (intros; try refine go_st ?_); refine go_c ?_; (refine sI ?_; try with_reducible exact True.intro)
   refine gb (fun h1 => ?_) (fun h1 => ?_)
   · have h1 := of_decide_eq_true h1
     (intros; try refine go_st ?_); refine go_r 17 26 (by decide) ?_; (refine sJ c61r4.eq_1 ?_; try with_reducible exact True.intro)
     refine ⟨by omega, ?_⟩
     refine ⟨n, ⟨rfl, rfl⟩, ⟨by omega, by omega, by unfold maxLen; omega⟩, ?_⟩
     intro g c zs hg
     (refine sI ?_; try with_reducible exact True.intro)
     refine ⟨by omega, ?_⟩
     (refine sI ?_; try with_reducible exact True.intro)
     (intros; try refine go_st ?_)
     exact go_l ⟨_, c, n, zs, _, rfl, rfl, .cons_cons _ (List.nil_sublist _)⟩
   · (intros; try refine go_st ?_)
     exact go_l ⟨none, 0, 0, [], _, eE, rfl, List.Sublist.refl _⟩
 rintro e h ⟨A, c, m, zc, Lh, e0, rfl, hsub⟩
 refine go_keep [0] ?_
 (refine sJ @e0 ?_; try with_reducible exact True.intro)
 (repeat (with_reducible intro _))
 (repeat (with_reducible intro _)); try refine go_seq ?_
 refine go_ghost (ghost_sub hsub) ?_
 refine go_ghost (ghost_cut (L1 := []) (L2 := []) (m := 0) (Nat.zero_le _)) ?_
 (intros; try refine go_st ?_); refine go_r 26 27 (by decide) ?_; (refine sJ c61r5.eq_1 ?_; try with_reducible exact True.intro)
 (intros; try refine go_st ?_)
 refine go_ret (retQ_o _ rfl (List.Sublist.refl _) (noRegs_row noRegs_nil) ?_)
 refine ⟨[], .nil, ?_⟩
 simp
 rfl
def EBs (G : Nat → Option Obj) (l : List UInt8) (cs : List Value) : Prop := ∃ v, cs = [v] ∧ SB G v l
theorem flat_take {ll : List (List UInt8)} {k : Nat} {l : List UInt8} (h : ll[k]? = some l) : (ll.take (k + 1)).flatten = (ll.take k).flatten ++ l := by
 rw [List.take_add_one, h]
 simp
theorem flat_le (ll : List (List UInt8)) (k : Nat) : (ll.take k).flatten.length ≤ ll.flatten.length := by
 conv => rhs; rw [← List.take_append_drop k ll, List.flatten_append, List.length_append]
 omega
theorem Concat_ok (ll : List (List UInt8)) (v : Value) (G : Nat → Option Obj) (hl : SlV G (EBs G) 1 v ll) (hb : ll.flatten.length ≤ 1000000) : FnO Try.prog 48 #[v] G [] (fun _ L' r => OwnB ll.flatten L' r) := by
 obtain ⟨A, c, rfl, hc, hm, hA⟩ := hl
 refine F48.fnO (by simp) noRegs_nil (go_of ?_)
 unfold c48
 (intros; try refine go_st ?_); refine go_r 0 0 (by decide) ?_; (refine sJ c48r0.eq_1 ?_; try with_reducible exact True.intro)
 (intros; try refine go_st ?_); refine go_r 0 0 (by decide) ?_; (refine sJ c48r1.eq_1 ?_; try with_reducible exact True.intro)
 (intros; try refine go_st ?_); refine go_r 0 0 (by decide) ?_; (refine sJ c48r2.eq_1 ?_; try with_reducible exact True.intro)
 (repeat (with_reducible intro _))
 (repeat (with_reducible intro _)); try refine go_seq ?_
 refine go_cut (fun e h => e 3 = .int .i64 ((ll.flatten.length : Nat) : Int) ∧ e 0 = .slice A ll.length c ∧ h = ⟨G, [], []⟩) ?_ ?_
 · (intros; try refine go_st ?_)
   refine go_loop (fun e h => ∃ k : Nat, k ≤ ll.length ∧ e 11 = .int .i64 k ∧ e 10 = .int .i64 ll.length ∧ e 9 = .slice A ll.length c ∧ e 0 = .slice A ll.length c ∧ e 3 = .int .i64 (((ll.take k).flatten.length : Nat) : Int) ∧ h = ⟨G, [], []⟩) (fun e h => ll.length - iv (e 11)) ?_ ?_
   · exact ⟨0, Nat.zero_le _, eE, eE, eE, eE, rfl, rfl⟩
   rintro e h ⟨k, hk, e11, e10, e9, e0, e3, rfl⟩
   refine go_keep [0, 3, 9, 10, 11] ?_
   (refine sJ5 @e0 @e3 @e9 @e10 @e11 ?_; try with_reducible exact True.intro)
   (intros; try refine go_st ?_); refine go_r 0 0 (by decide) ?_; (refine sJ c48r3.eq_1 ?_; try with_reducible exact True.intro)
   (intros; try refine go_st ?_); refine go_c ?_; (refine sI ?_; try with_reducible exact True.intro)
   refine gb (fun ht => ?_) (fun ht => ?_)
   · have ht : k < ll.length := by have := of_decide_eq_true ht; omega
     have hw := inc_i k c (by omega) hm
     obtain ⟨x, hx⟩ : ∃ x, ll[k]? = some x := ⟨ll[k], List.getElem?_eq_getElem (by omega)⟩
     have h1 := flat_take hx
     have h2 := flat_le ll (k + 1)
     have h3 : (ll.take (k + 1)).flatten.length = (ll.take k).flatten.length + x.length := by rw [h1, List.length_append]
     generalize hn1 : (ll.take (k + 1)).flatten.length = n1 at *
     generalize (ll.take k).flatten.length = n0 at *
     have hw2 : IntKind.i64.wrap ((n0 : Int) + (x.length : Int)) = (n1 : Int) := by rw [w64_id] <;> omega
     have hneg : decide ((n1 : Int) < 0) = false := decide_eq_false (by omega)
     (repeat first | (with_reducible intro _) | refine go_skip ?_ | refine go_b ?_)
     (intros; try refine go_st ?_); refine go_r 13 15 (by decide) ?_; (refine sJ c48r4.eq_1 ?_; try with_reducible exact True.intro)
     refine hA.x_l1 hx rfl rfl ?_
     rintro a1 ha1 u ⟨u', hu, B, d, rfl, -⟩
     cases hu
     (refine sI ?_; try with_reducible exact True.intro)
     (intros; try refine go_st ?_); refine go_r 15 19 (by decide) ?_; (refine sJ2 c48r5.eq_1 @hw2 ?_; try with_reducible exact True.intro)
     (intros; try refine go_st ?_); refine go_r 19 20 (by decide) ?_; (refine sJ2 c48r6.eq_1 @hneg ?_; try with_reducible exact True.intro)
     (intros; try refine go_st ?_); refine go_c ?_; (refine sI ?_; try with_reducible exact True.intro)
     (repeat first | (with_reducible intro _) | refine go_skip ?_ | refine go_b ?_)
     (intros; try refine go_st ?_); refine go_r 22 23 (by decide) ?_; (refine sJ2 c48r7.eq_1 @hw ?_; try with_reducible exact True.intro)
     (intros; try refine go_st ?_)
     refine go_l ⟨⟨k + 1, by omega, eE, eE, eE, eE, (eJ @hn1), rfl⟩, ?_⟩
     (refine sI ?_; try with_reducible exact True.intro)
     omega
   · have ht : k = ll.length := by have := of_decide_eq_false ht; omega
     subst ht
     have htk : ll.take ll.length = ll := List.take_length
     refine go_exit ?_
     (refine sI ?_; try with_reducible exact True.intro)
     (repeat first | (with_reducible intro _) | refine go_skip ?_ | refine go_b ?_)
     exact go_l ⟨(eJ @htk), eE, rfl⟩
 rintro e h ⟨e3, e0, rfl⟩
 refine go_keep [0, 3] ?_
 (refine sJ2 @e0 @e3 ?_; try with_reducible exact True.intro)
 (repeat (with_reducible intro _))
 (intros; try refine go_st ?_); refine go_r 23 25 (by decide) ?_; (refine sJ c48r8.eq_1 ?_; try with_reducible exact True.intro)
 refine (ownK_sl (Grow_ok ll.flatten.length G hb) _ []).mono ?_
 rintro r h' ⟨G1, L', rfl, hg1, A1, c1, ys, rfl, -, hys, rfl⟩
 (refine sI ?_; try with_reducible exact True.intro)
 (intros; try refine go_st ?_); refine go_r 0 0 (by decide) ?_; (refine sJ c48r9.eq_1 ?_; try with_reducible exact True.intro)
 (repeat (with_reducible intro _))
 have hA1 := hA.le hg1 (E' := EBs G1) fun _ _ ⟨u, h1, h2⟩ => ⟨u, h1, SB.le h2 hg1⟩
 refine go_cut (fun e h => ∃ u zc, Cells UE 1 ll.flatten zc ∧ e 6 = u ∧ h = ⟨G1, [.row u 5 1 ll.flatten.length zc], []⟩) ?_ ?_
 · (intros; try refine go_st ?_)
   refine go_loop (fun e h => ∃ (k : Nat) (u : Value) (zc : List Value), (k ≤ ll.length ∧ Cells UE 1 (ll.take k).flatten zc) ∧ e 27 = .int .i64 k ∧ e 26 = .int .i64 ll.length ∧ e 25 = .slice A ll.length c ∧ e 6 = u ∧ h = ⟨G1, [.row u 5 1 (ll.take k).flatten.length zc], []⟩) (fun e h => ll.length - iv (e 27)) ?_ ?_
   · exact ⟨0, _, ys, ⟨Nat.zero_le _, hys⟩, eE, eE, eE, eE, rfl⟩
   rintro e h ⟨k, u, zc, ⟨hk, hzc⟩, e27, e26, e25, e6, rfl⟩
   refine go_keep [6, 25, 26, 27] ?_
   (refine sJ4 @e6 @e25 @e26 @e27 ?_; try with_reducible exact True.intro)
   (intros; try refine go_st ?_); refine go_r 0 0 (by decide) ?_; (refine sJ c48r10.eq_1 ?_; try with_reducible exact True.intro)
   (intros; try refine go_st ?_); refine go_c ?_; (refine sI ?_; try with_reducible exact True.intro)
   refine gb (fun ht => ?_) (fun ht => ?_)
   · have ht : k < ll.length := by have := of_decide_eq_true ht; omega
     have hw := inc_i k c (by omega) hm
     obtain ⟨x, hx⟩ : ∃ x, ll[k]? = some x := ⟨ll[k], List.getElem?_eq_getElem (by omega)⟩
     have h1 := flat_take hx
     have h2 := flat_le ll (k + 1)
     have h3 : (ll.take (k + 1)).flatten.length = (ll.take k).flatten.length + x.length := by rw [h1, List.length_append]
     (repeat first | (with_reducible intro _) | refine go_skip ?_ | refine go_b ?_)
     (intros; try refine go_st ?_); refine go_r 29 31 (by decide) ?_; (refine sJ c48r11.eq_1 ?_; try with_reducible exact True.intro)
     refine hA1.x_l1 hx rfl rfl ?_
     rintro a1 ha1 u1 ⟨u', hu, hsb⟩
     cases hu
     (refine sI ?_; try with_reducible exact True.intro)
     (intros; try refine go_st ?_); refine go_r 31 34 (by decide) ?_; (refine sJ c48r12.eq_1 ?_; try with_reducible exact True.intro)
     refine apX_v (L1 := []) (.inl rfl) hsb rfl UE1 (by unfold maxLen; omega) fun ys1 A2 c2 hc2 => ?_
     have hh := hzc.app hc2
     rw [← h1] at hh
     rw [← h3]
     (refine sI ?_; try with_reducible exact True.intro)
     (repeat first | (with_reducible intro _) | refine go_skip ?_ | refine go_b ?_)
     (intros; try refine go_st ?_); refine go_r 34 35 (by decide) ?_; (refine sJ2 c48r13.eq_1 @hw ?_; try with_reducible exact True.intro)
     (intros; try refine go_st ?_)
     refine go_l ⟨⟨k + 1, _, _, ⟨by omega, hh⟩, eE, eE, eE, eE, rfl⟩, ?_⟩
     (refine sI ?_; try with_reducible exact True.intro)
     omega
   · have ht : k = ll.length := by have := of_decide_eq_false ht; omega
     subst ht
     rw [List.take_length] at hzc ⊢
     refine go_exit ?_
     (refine sI ?_; try with_reducible exact True.intro)
     (repeat first | (with_reducible intro _) | refine go_skip ?_ | refine go_b ?_)
     exact go_l ⟨u, zc, hzc, eE, rfl⟩
 rintro e h ⟨u, zc, hzc, e6, rfl⟩
 refine go_keep [6] ?_
 (refine sJ @e6 ?_; try with_reducible exact True.intro)
 (repeat (with_reducible intro _))
 (intros; try refine go_st ?_); refine go_r 35 36 (by decide) ?_; (refine sJ c48r14.eq_1 ?_; try with_reducible exact True.intro)
 (intros; try refine go_st ?_)
 refine go_ret (retQ_o _ rfl (List.Sublist.refl _) (noRegs_row noRegs_nil) ?_)
 exact ⟨zc, hzc, rfl⟩
theorem F30 : Fun Try.prog 30 69 v30 c30 o30 := Fun.mk' Try.func30 Try.ntmps30 (by kernel_rfl) (by kernel_rfl) s30 q30
def appS (s : Sg) (x : Batch) (limit : Int) : Sg × Int :=
 if goodB s = s.bytes.length ∧ inO s.base = true ∧ limO limit = true then
   if errB x = 0 then
     if x.base < endB s then (noneS, 71)
     else if limit < ((s.bytes.length + (bytesB x).length : Nat) : Int) then (noneS, 70)
     else (⟨s.base, s.bytes ++ bytesB x⟩, 0)
   else (noneS, errB x)
 else (noneS, 1)
theorem appS_1 {s : Sg} {x : Batch} {limit : Int} (h : ¬ (goodB s = s.bytes.length ∧ inO s.base = true ∧ limO limit = true)) : appS s x limit = (noneS, 1) := if_neg h
theorem appS_e {s : Sg} {x : Batch} {limit : Int} (h : goodB s = s.bytes.length ∧ inO s.base = true ∧ limO limit = true) (h1 : ¬ errB x = 0) : appS s x limit = (noneS, errB x) := by rw [appS, if_pos h, if_neg h1]
theorem appS_o {s : Sg} {x : Batch} {limit : Int} (h : goodB s = s.bytes.length ∧ inO s.base = true ∧ limO limit = true) (h1 : errB x = 0) (h2 : x.base < endB s) : appS s x limit = (noneS, 71) := by rw [appS, if_pos h, if_pos h1, if_pos h2]
theorem appS_r {s : Sg} {x : Batch} {limit : Int} (h : goodB s = s.bytes.length ∧ inO s.base = true ∧ limO limit = true) (h1 : errB x = 0) (h2 : ¬ x.base < endB s) (h3 : limit < ((s.bytes.length + (bytesB x).length : Nat) : Int)) : appS s x limit = (noneS, 70) := by rw [appS, if_pos h, if_pos h1, if_neg h2, if_pos h3]
theorem appS_0 {s : Sg} {x : Batch} {limit : Int} (h : goodB s = s.bytes.length ∧ inO s.base = true ∧ limO limit = true) (h1 : errB x = 0) (h2 : ¬ x.base < endB s) (h3 : ¬ limit < ((s.bytes.length + (bytesB x).length : Nat) : Int)) : appS s x limit = (⟨s.base, s.bytes ++ bytesB x⟩, 0) := by rw [appS, if_pos h, if_pos h1, if_neg h2, if_neg h3]
theorem goodB_le (s : Sg) : goodB s ≤ s.bytes.length := by
 obtain ⟨r, h⟩ := scan_spec s
 exact h.len.2
theorem Append_ok (s : Sg) (x : Batch) (limit : Int) (cs ds : List Value) (G : Nat → Option Obj) (hs : SE G s cs) (hb : s.bytes.length ≤ 100000) (hx : BE G x ds) (hi : I64 limit) :
   FnO Try.prog 30 #[.agg cs.toArray, .agg ds.toArray, .int .i64 limit] G [] (fun _ L' r => OwnSE (appS s x limit) L' r) := by
 have hscan := Scan_ok s cs G hs (by omega)
 have hput := BPut_ok x ds G hx
 have hs0 := hs
 have hx0 := hx
 obtain ⟨A, c, rfl, hl, hib⟩ := hs
 obtain ⟨B, d, rfl, -⟩ := hx
 have hgl := goodB_le s
 refine F30.fnO (by simp) noRegs_nil (go_of ?_)
 unfold c30
 unfold cellS at hscan hs0 ⊢
 unfold cellH at hput hx0 ⊢
 (intros; try refine go_st ?_); refine go_r 0 0 (by decide) ?_; (refine sJ c30r0.eq_1 ?_; try with_reducible exact True.intro)
 (intros; try refine go_st ?_); refine go_r 12 17 (by decide) ?_; (refine sJ c30r1.eq_1 ?_; try with_reducible exact True.intro)
 refine (hscan _ _).mono ?_
 rintro r h' ⟨G1, L', rfl, hg1, u, zc, rfl, -, rfl⟩
 (refine sI ?_; try with_reducible exact True.intro)
 (repeat (with_reducible intro _))
 refine go_ghost (ghost_sub (.cons _ (List.Sublist.refl _))) ?_
 (repeat (with_reducible intro _)); try refine go_seq ?_
 have hbad : ∀ (fr : List Td) (e : Env) (X : List Kx.Item) (Y : List Value), ¬ (goodB s = s.bytes.length ∧ inO s.base = true ∧ limO limit = true) → go none Try.prog 69 v30.1 v30.2 (retQ o30 fun v h => OwnSE (appS s x limit) h.L v) (Td.s ((SC.reg false c30r3).seq .ret) :: fr) e ⟨G1, .reg 6 [.int .i64 0, .slice none 0 0] :: X, []⟩ := fun fr e X Y hn => by
   (intros; try refine go_st ?_); refine go_r 33 34 (by decide) ?_; (refine sJ c30r3.eq_1 ?_; try with_reducible exact True.intro)
   (intros; try refine go_st ?_)
   refine go_ghost (ghost_nil none 5 1) ?_
   refine go_ret (retQ_o _ rfl (.cons_cons _ (List.nil_sublist _)) (noRegs_row noRegs_nil) ?_)
   rw [appS_1 hn]
   exact ⟨_, [], rfl, rfl, .nil⟩
 (intros; try refine go_st ?_); refine go_r 17 32 (by decide) ?_; (refine sJ c30r2.eq_1 ?_; try with_reducible exact True.intro)
 refine gd (fun k1 => ?_) (fun k1 => ?_)
 · (refine sI ?_; try with_reducible exact True.intro)
   (intros; try refine go_st ?_); refine go_c ?_; (refine sI ?_; try with_reducible exact True.intro)
   exact hbad _ _ _ [] fun h => of_decide_eq_true k1 (by rw [h.1])
 have k1 : goodB s = s.bytes.length := by have := of_decide_eq_false k1; omega
 (refine sI ?_; try with_reducible exact True.intro)
 refine (based_ok _ _ _ _).mono ?_; rintro _ _ ⟨rfl, rfl⟩; (refine sI ?_; try with_reducible exact True.intro)
 refine gd (fun k2 => ?_) (fun k2 => ?_)
 · (refine sI ?_; try with_reducible exact True.intro)
   (intros; try refine go_st ?_); refine go_c ?_; (refine sI ?_; try with_reducible exact True.intro)
   exact hbad _ _ _ [] fun h => by rw [h.2.1] at k2; cases k2
 have k2 : inO s.base = true := by simpa using k2
 (refine sI ?_; try with_reducible exact True.intro)
 refine (limited_ok _ _ _ _).mono ?_; rintro _ _ ⟨rfl, rfl⟩; (refine sI ?_; try with_reducible exact True.intro)
 (intros; try refine go_st ?_); refine go_c ?_; (refine sI ?_; try with_reducible exact True.intro)
 refine gb (fun k3 => ?_) (fun k3 => ?_)
 · exact hbad _ _ _ [] fun h => by rw [h.2.2] at k3; cases k3
 have k3 : limO limit = true := by simpa using k3
 clear hbad
 have hok : goodB s = s.bytes.length ∧ inO s.base = true ∧ limO limit = true := ⟨k1, k2, k3⟩
 (repeat first | (with_reducible intro _) | refine go_skip ?_ | refine go_b ?_)
 have hput := BPut_ok x _ G1 (BE.le hg1 hx0)
 (intros; try refine go_st ?_); refine go_r 34 39 (by decide) ?_; (refine sJ c30r4.eq_1 ?_; try with_reducible exact True.intro)
 refine (hput _ _).mono ?_
 rintro r h' ⟨G2, L', rfl, hg2, w, rfl, ys, hys, rfl⟩
 (refine sI ?_; try with_reducible exact True.intro)
 (repeat (with_reducible intro _)); try refine go_seq ?_
 refine go_gx (gx_slv_at [] _ (by decide) hys) ?_
 rintro h' ⟨G3, rfl, hg3, hv3⟩
 have hg03 := hg1.trans (hg2.trans hg3)
 by_cases he : errB x = 0
 rotate_left
 · rw [putB_n he] at hv3 ⊢
   (intros; try refine go_st ?_); refine go_r 40 42 (by decide) ?_; (refine sJ c30r5.eq_1 ?_; try with_reducible exact True.intro)
   (intros; try refine go_st ?_); refine go_c ?_; (refine sI ?_; try with_reducible exact True.intro)
   refine gb (fun k4 => ?_) (fun k4 => absurd (of_decide_eq_false k4) (by simpa using he))
   (intros; try refine go_st ?_); refine go_r 42 44 (by decide) ?_; (refine sJ c30r6.eq_1 ?_; try with_reducible exact True.intro)
   (intros; try refine go_st ?_)
   refine go_ghost (ghost_nil none 5 1) ?_
   refine go_ret (retQ_o _ rfl (.cons_cons _ (List.nil_sublist _)) (noRegs_row noRegs_nil) ?_)
   rw [appS_e hok he]
   exact ⟨_, [], rfl, rfl, .nil⟩
 rw [putB_0 he] at hv3 ⊢
 have hv3 : SB G3 w (bytesB x) := hv3
 have hbl := (errB_ok he).2
 have hz : decide ((0 : Int) ≠ 0) = false := by decide
 (intros; try refine go_st ?_); refine go_r 40 42 (by decide) ?_; (refine sJ2 c30r5.eq_1 @hz ?_; try with_reducible exact True.intro)
 (intros; try refine go_st ?_); refine go_c ?_; (refine sI ?_; try with_reducible exact True.intro)
 (repeat first | (with_reducible intro _) | refine go_skip ?_ | refine go_b ?_)
 (intros; try refine go_st ?_); refine go_x _ (List.Sublist.refl _) (by decide) ?_; (refine sJ c30r7.eq_1 ?_; try with_reducible exact True.intro)
 refine (End_ok s _ G3 (SE.le hg03 hs0) (by omega) _ _).mono ?_; rintro _ _ ⟨rfl, rfl⟩; (refine sI ?_; try with_reducible exact True.intro)
 (intros; try refine go_st ?_); refine go_c ?_; (refine sI ?_; try with_reducible exact True.intro)
 refine gb (fun k5 => ?_) (fun k5 => ?_)
 · have k5 := of_decide_eq_true k5
   (intros; try refine go_st ?_); refine go_r 50 51 (by decide) ?_; (refine sJ c30r8.eq_1 ?_; try with_reducible exact True.intro)
   (intros; try refine go_st ?_)
   refine go_ghost (ghost_nil none 5 1) ?_
   refine go_ret (retQ_o _ rfl (.cons_cons _ (List.nil_sublist _)) (noRegs_row noRegs_nil) ?_)
   rw [appS_o hok he k5]
   exact ⟨_, [], rfl, rfl, .nil⟩
 have k5 := of_decide_eq_false k5
 have hw : IntKind.i64.wrap ((s.bytes.length : Int) + ((bytesB x).length : Int)) = ((s.bytes.length + (bytesB x).length : Nat) : Int) := by rw [w64_id] <;> omega
 have hsb3 := hv3
 obtain ⟨A3, c3, rfl, -⟩ := hv3
 (intros; try refine go_st ?_); refine go_r 53 60 (by decide) ?_; (refine sJ2 c30r9.eq_1 @hw ?_; try with_reducible exact True.intro)
 (intros; try refine go_st ?_); refine go_c ?_; (refine sI ?_; try with_reducible exact True.intro)
 refine gb (fun k6 => ?_) (fun k6 => ?_)
 · have k6 := of_decide_eq_true k6
   (intros; try refine go_st ?_); refine go_r 60 61 (by decide) ?_; (refine sJ c30r10.eq_1 ?_; try with_reducible exact True.intro)
   (intros; try refine go_st ?_)
   refine go_ghost (ghost_nil none 5 1) ?_
   refine go_ret (retQ_o _ rfl (.cons_cons _ (List.nil_sublist _)) (noRegs_row noRegs_nil) ?_)
   rw [appS_r hok he k5 k6]
   exact ⟨_, [], rfl, rfl, .nil⟩
 have k6 := of_decide_eq_false k6
 have h0 := appS_0 hok he k5 k6
 have hll : Cells (EBs G3) 1 [s.bytes, bytesB x] [.slice A s.bytes.length c, .slice A3 (bytesB x).length c3] := .cons (cs := [_]) ⟨_, rfl, SB.le hl hg03⟩ rfl (.one ⟨_, rfl, hsb3⟩ rfl)
 (repeat first | (with_reducible intro _) | refine go_skip ?_ | refine go_b ?_)
 (intros; try refine go_st ?_); refine go_y _ (List.Sublist.refl _) (by decide) ?_; (refine sJ c30r11.eq_1 ?_; try with_reducible exact True.intro)
 intro bk hbk
 refine ⟨grow_L (fun _ _ h => h) (.cons _ (List.Sublist.refl _)), ?_⟩
 refine callsH_gx F48.enters (gx_slv_at [] _ (by decide) hll) ?_
 rintro h' ⟨G5, rfl, hg5, hv5⟩
 refine (ownK_sl (Concat_ok [s.bytes, bytesB x] _ G5 (hv5.le (.refl _) fun _ _ ⟨v, h1, h2⟩ => ⟨v, h1, SB.le h2 hg5⟩) (by simp; omega)) _ _).mono ?_
 rintro r h' ⟨G6, L', rfl, hg6, A6, c6, zc6, rfl, -, hzc6, rfl⟩
 have hfl : [s.bytes, bytesB x].flatten = s.bytes ++ bytesB x := by simp
 rw [hfl] at hzc6 ⊢
 refine ⟨grow_L (hg5.trans hg6) (.cons _ (List.Sublist.refl _)), ?_⟩
 (refine sI ?_; try with_reducible exact True.intro)
 (refine sJ c30r12.eq_1 ?_; try with_reducible exact True.intro)
 (intros; try refine go_st ?_)
 refine go_ret (retQ_o _ rfl (.cons_cons _ (List.nil_sublist _)) (noRegs_row noRegs_nil) ?_)
 rw [h0]
 exact ⟨_, zc6, rfl, rfl, hzc6⟩
def SegR (p : Sg × Int) (G : Nat → Option Obj) (r : Value) : Prop := ∃ A c, r = .tuple #[.agg #[.int .i64 p.1.base, .slice A p.1.bytes.length c], .int .i64 p.2] ∧ SB G (.slice A p.1.bytes.length c) p.1.bytes
theorem ownSE_sl {P : Program} {f : FuncId} {args : Array Value} {G : Nat → Option Obj} {p : Sg × Int} (hf : FnO P f args G [] (fun _ L' r => OwnSE p L' r)) :
   FnO P f args G [] (fun _ L' r => ∃ A c zc, r = .tuple #[.agg #[.int .i64 p.1.base, .slice A p.1.bytes.length c], .int .i64 p.2] ∧ (p.1.bytes.length ≤ c ∧ c ≤ maxLen) ∧ L' = [.row (.slice A p.1.bytes.length c) 5 1 p.1.bytes.length zc] ∧ Cells UE 1 p.1.bytes zc) := fun L D =>
 (hf L D).gx fun v h' ⟨G', L', he, hg, u, zc, h1, h2, h3⟩ => by
   subst he h2
   refine (gx_knowS (.head _)).mono fun h' ⟨e1, A, c, e2, e3, e4⟩ => ?_
   subst e2
   exact ⟨G', _, e1, hg, A, c, zc, h1, ⟨e3, e4⟩, rfl, h3⟩
theorem ownSE_d {P : Program} {f : FuncId} {args : Array Value} {G : Nat → Option Obj} {p : Sg × Int} (hf : FnO P f args G [] (fun _ L' r => OwnSE p L' r)) : FnD P f args G (SegR p) :=
 FnO.fnD (L1 := []) (ownSE_sl hf) fun G' L' v ⟨A, c, zc, h1, _, h2, h3⟩ _ L D => by
   subst h2
   exact (gx_slv (by decide) h3).mono fun h' ⟨G2, e1, e2, e3⟩ => ⟨G2, e1, e2, A, c, h1, e3⟩
theorem more_nil {nx : Int} : ¬ moreB [] nx := fun h => by
 obtain ⟨x, s, -, e, -⟩ := more_ok h
 have := bytesB_pos x
 have h2 := congrArg List.length e
 simp at h2
 omega
theorem ordB_take {nx : Int} {bs : List Batch} (h : ordB nx bs) (k : Nat) : ordB nx (bs.take k) := by
 rw [← List.take_append_drop k bs, ordB_app] at h
 exact h.1
theorem Scans.pre {nx : Int} {q r : List UInt8} {bs : List Batch} (h : Scans nx q bs r) (k : Nat) : Scans nx (allB (bs.take k)) (bs.take k) [] :=
 ⟨(List.append_nil _).symm, fun x hx => h.ok x (List.mem_of_mem_take hx), ordB_take h.ord k, more_nil⟩
theorem nextB_mono : ∀ {nx : Int} {bs : List Batch}, ordB nx bs → (∀ x ∈ bs, errB x = 0) → ∀ k, nextB nx (bs.take k) ≤ nextB nx bs
 | nx, [], _, _, k => by simp [nextB]
 | nx, x :: bs, ho, hok, 0 => by
   have h1 := nextB_mono ho.2 (fun z hz => hok z (.tail _ hz)) 0
   have h2 : x.base ≤ x.last := (errB_ok (hok x (.head _))).1.2.2.1.1
   have h3 := ho.1
   simp only [List.take_zero, nextB] at h1 ⊢
   omega
 | nx, x :: bs, ho, hok, k + 1 => nextB_mono ho.2 (fun z hz => hok z (.tail _ hz)) k
structure En where
 off : Int
 pos : Int
 stamp : Int
deriving DecidableEq
def stM (m : Int) (b : Batch) : Int := b.recs.foldl (fun m r => max m r.stamp) m
def entB : Int → Int → List Batch → List En
 | _, _, [] => []
 | p, m, b :: bs => ⟨b.base, p, stM m b⟩ :: entB (p + ((bytesB b).length : Int)) (stM m b) bs
def allE (s : Sg) : List En := entB 0 (-1) (scanB s)
def rightB (s : Sg) : Bool := inO s.base && decide (s.bytes.length ≤ 4096) && decide (goodB s = s.bytes.length)
def entAt (bs : List Batch) (k : Nat) (b : Batch) : En := ⟨b.base, (((allB (bs.take k)).length : Nat) : Int), (bs.take (k + 1)).foldl stM (-1)⟩
theorem entB_len (p m : Int) (bs : List Batch) : (entB p m bs).length = bs.length := by
 induction bs generalizing p m with
 | nil => rfl
 | cons b bs ih => rw [entB, List.length_cons, ih, List.length_cons]
theorem entB_get : ∀ (bs : List Batch) (p m : Int) (k : Nat) (b : Batch), bs[k]? = some b → (entB p m bs)[k]? = some ⟨b.base, p + (((allB (bs.take k)).length : Nat) : Int), (bs.take (k + 1)).foldl stM m⟩
 | [], _, _, _, _, h => by simp at h
 | x :: bs, p, m, 0, b, h => by
   simp at h
   subst h
   simp [entB, allB]
 | x :: bs, p, m, k + 1, b, h => by
   rw [entB, List.getElem?_cons_succ, entB_get bs _ _ k b (by simpa using h)]
   simp only [List.take_succ_cons, allB_cons, List.length_append, List.foldl_cons]
   rw [show p + ((bytesB x).length : Int) + ((allB (bs.take k)).length : Int) = p + (((bytesB x).length + (allB (bs.take k)).length : Nat) : Int) by omega]
theorem allE_get {s : Sg} {bs : List Batch} (hb : scanB s = bs) {k : Nat} {b : Batch} (h : bs[k]? = some b) : (allE s)[k]? = some (entAt bs k b) := by
 rw [allE, hb, entB_get bs 0 (-1) k b h, Int.zero_add]
 rfl
theorem allE_len (s : Sg) : (allE s).length = (scanB s).length := entB_len _ _ _
def mkE (every : Int) : Int → List En → List En
 | _, [] => []
 | nx, e :: es => if nx ≤ e.pos then e :: mkE every (e.pos + every) es else mkE every nx es
def makeS (s : Sg) (every : Int) : List En × Int := if rightB s = true ∧ 1 ≤ every ∧ every ≤ 4096 then (mkE every 0 (allE s), 0) else ([], 1)
def subB : List En → List En → Bool
 | l, [] => l.isEmpty
 | [], _ :: _ => true
 | x :: l, e :: es => if x = e then subB l es else subB (x :: l) es
def chkE : List En → List En → Bool
 | l, [] => l.isEmpty
 | [], _ :: _ => false
 | x :: l, e :: es => decide (x = e) && subB l es
def chkI (s : Sg) (l : List En) : Int := if rightB s = true ∧ chkE l (allE s) = true then 0 else 1
theorem subB_nil : ∀ (es : List En), subB [] es = true
 | [] => rfl
 | _ :: _ => rfl
theorem subB_iff : ∀ (es l : List En), subB l es = true ↔ l.Sublist es
 | [], l => by simp [subB]
 | e :: es, [] => by simp [subB]
 | e :: es, x :: l => by
   rw [subB]
   split
   · rename_i h
     subst h
     rw [subB_iff es l]
     constructor
     · exact fun h => .cons_cons _ h
     · intro h
       cases h with
       | cons _ h => exact (List.sublist_cons_self _ _).trans h
       | cons_cons _ h => exact h
   · rename_i h
     rw [subB_iff es (x :: l)]
     constructor
     · exact fun h => .cons _ h
     · intro h'
       cases h' with
       | cons _ h' => exact h'
       | cons_cons _ h' => exact absurd rfl h
theorem chkE_iff {l es : List En} : chkE l es = true ↔ l.Sublist es ∧ (es ≠ [] → l.head? = es.head?) := by
 cases es with
 | nil => simp [chkE]
 | cons e es =>
   cases l with
   | nil => simp [chkE]
   | cons x l =>
     simp only [chkE, Bool.and_eq_true, decide_eq_true_eq, subB_iff, ne_eq, reduceCtorEq, not_false_eq_true, List.head?_cons, Option.some.injEq, forall_const]
     constructor
     · rintro ⟨rfl, h⟩
       exact ⟨.cons_cons _ h, rfl⟩
     · rintro ⟨h, rfl⟩
       refine ⟨rfl, ?_⟩
       cases h with
       | cons _ h => exact (List.sublist_cons_self _ _).trans h
       | cons_cons _ h => exact h
theorem rightB_iff {s : Sg} : rightB s = true ↔ inO s.base = true ∧ s.bytes.length ≤ 4096 ∧ goodB s = s.bytes.length := by
 simp [rightB, and_assoc]
theorem allE_head {s : Sg} {e : En} (h : (allE s).head? = some e) : e.pos = 0 := by
 unfold allE at h
 cases hs : scanB s with
 | nil => rw [hs] at h; cases h
 | cons b bs =>
   rw [hs, entB] at h
   simp at h
   subst h
   rfl
def lastE (p : En → Bool) (l : List En) : Int := ((l.filter p).getLast?.map En.pos).getD 0
def offP (off : Int) (e : En) : Bool := decide (e.off ≤ off)
def stP (stamp : Int) (e : En) : Bool := decide (e.stamp < stamp)
def findP (off : Int) (b : Batch) : Bool := decide (off ≤ b.last)
def findL (bs : List Batch) (off : Int) : Batch × Int := match bs.find? (findP off) with | some b => (b, 0) | none => (noneB, 90)
def findS (s : Sg) (l : List En) (off : Int) : Batch × Int := if chkI s l = 0 then findL (scanB s) off else (noneB, chkI s l)
def recP (stamp : Int) (r : Rec) : Bool := decide (stamp ≤ r.stamp)
def sinceL (bs : List Batch) (stamp : Int) : Int × Int := match (bs.flatMap Batch.recs).find? (recP stamp) with | some r => (r.off, 0) | none => (0, 90)
def sinceS (s : Sg) (l : List En) (stamp : Int) : Int × Int := if chkI s l = 0 then sinceL (scanB s) stamp else (0, chkI s l)
theorem last_lt_base {nx : Int} {bs : List Batch} (ho : ordB nx bs) (hok : ∀ x ∈ bs, errB x = 0) {i j : Nat} {x y : Batch} (hx : bs[i]? = some x) (hy : bs[j]? = some y) (hij : i < j) : x.last < y.base := by
 have hj := (List.getElem?_eq_some_iff.1 hy)
 have e1 : bs = bs.take j ++ (y :: bs.drop (j + 1)) := by
   conv => lhs; rw [← List.take_append_drop j bs, List.drop_eq_getElem_cons hj.1, hj.2]
 rw [e1, ordB_app] at ho
 have h2 := ho.2.1
 have h3 := nextB_mono ho.1 (fun z hz => hok z (List.mem_of_mem_take hz)) (i + 1)
 rw [List.take_take, Nat.min_eq_left (by omega), nextB_at nx hx] at h3
 omega
theorem stM_ge (b : Batch) (m : Int) : m ≤ stM m b ∧ ∀ r ∈ b.recs, r.stamp ≤ stM m b := by
 unfold stM
 generalize b.recs = l
 induction l generalizing m with
 | nil => exact ⟨Int.le_refl _, fun r h => by cases h⟩
 | cons x l ih =>
   obtain ⟨h1, h2⟩ := ih (max m x.stamp)
   rw [List.foldl_cons]
   refine ⟨by omega, fun r hr => ?_⟩
   rcases List.mem_cons.1 hr with rfl | hr
   · omega
   · exact h2 r hr
theorem foldM_ge : ∀ (bs : List Batch) (m : Int), m ≤ bs.foldl stM m ∧ ∀ b ∈ bs, ∀ r ∈ b.recs, r.stamp ≤ bs.foldl stM m
 | [], m => ⟨Int.le_refl _, fun b h => by cases h⟩
 | x :: bs, m => by
   obtain ⟨h1, h2⟩ := foldM_ge bs (stM m x)
   obtain ⟨h3, h4⟩ := stM_ge x m
   rw [List.foldl_cons]
   refine ⟨by omega, fun b hb r hr => ?_⟩
   rcases List.mem_cons.1 hb with rfl | hb
   · have := h4 r hr; omega
   · exact h2 b hb r hr
theorem lastE_at {s : Sg} {l : List En} {p : En → Bool} (h : l.Sublist (allE s)) : (lastE p l = 0 ∧ ∀ e ∈ l, p e = false) ∨ ∃ k b, (scanB s)[k]? = some b ∧ p (entAt (scanB s) k b) = true ∧ lastE p l = (((allB ((scanB s).take k)).length : Nat) : Int) := by
 unfold lastE
 cases hl : (l.filter p).getLast? with
 | none =>
   left
   refine ⟨rfl, fun e he => ?_⟩
   have h0 := List.getLast?_eq_none_iff.1 hl
   cases hp : p e with
   | false => rfl
   | true =>
     have : e ∈ l.filter p := List.mem_filter.2 ⟨he, hp⟩
     rw [h0] at this
     cases this
 | some e =>
   right
   have h1 := List.mem_of_getLast? hl
   obtain ⟨h2, h3⟩ := List.mem_filter.1 h1
   obtain ⟨k, hk⟩ := List.getElem?_of_mem (h.subset h2)
   have hkl := (List.getElem?_eq_some_iff.1 hk).1
   rw [allE_len] at hkl
   have hb : (scanB s)[k]? = some (scanB s)[k] := List.getElem?_eq_getElem hkl
   have := allE_get rfl hb
   rw [hk] at this
   cases this
   exact ⟨k, _, hb, h3, rfl⟩
theorem find_take {α : Type} {p : α → Bool} {l : List α} {k : Nat} (h : ∀ x ∈ l.take k, p x = false) : l.find? p = (l.drop k).find? p := by
 conv => lhs; rw [← List.take_append_drop k l, List.find?_append]
 have : (l.take k).find? p = none := List.find?_eq_none.2 fun x hx => by rw [h x hx]; simp
 rw [this]
 rfl
theorem floor_at {s : Sg} {l : List En} (off : Int) (h : l.Sublist (allE s)) : ∃ j, j ≤ (scanB s).length ∧ lastE (offP off) l = (((allB ((scanB s).take j)).length : Nat) : Int) ∧ ∀ x ∈ (scanB s).take j, findP off x = false := by
 obtain ⟨r, hsc⟩ := scan_spec s
 rcases lastE_at (p := offP off) h with ⟨h0, -⟩ | ⟨k, b, hb, hp, hl⟩
 · exact ⟨0, Nat.zero_le _, by rw [h0]; rfl, fun x hx => by cases hx⟩
 · refine ⟨k, by have := (List.getElem?_eq_some_iff.1 hb).1; omega, hl, fun x hx => ?_⟩
   obtain ⟨i, hi⟩ := List.getElem?_of_mem hx
   have hil := (List.getElem?_eq_some_iff.1 hi).1
   rw [List.length_take] at hil
   rw [List.getElem?_take, if_pos (by omega)] at hi
   have h1 := last_lt_base hsc.ord hsc.ok hi hb (by omega)
   have h2 : b.base ≤ off := of_decide_eq_true hp
   exact decide_eq_false (by omega)
theorem when_at {s : Sg} {l : List En} (stamp : Int) (h : l.Sublist (allE s)) : ∃ j, j ≤ (scanB s).length ∧ lastE (stP stamp) l = (((allB ((scanB s).take j)).length : Nat) : Int) ∧ ∀ x ∈ (scanB s).take j, ∀ r ∈ x.recs, recP stamp r = false := by
 rcases lastE_at (p := stP stamp) h with ⟨h0, -⟩ | ⟨k, b, hb, hp, hl⟩
 · exact ⟨0, Nat.zero_le _, by rw [h0]; rfl, fun x hx => by cases hx⟩
 · refine ⟨k, by have := (List.getElem?_eq_some_iff.1 hb).1; omega, hl, fun x hx r hr => ?_⟩
   have h1 : x ∈ (scanB s).take (k + 1) := by
     rw [List.take_add_one]
     exact List.mem_append_left _ hx
   have h2 := (foldM_ge ((scanB s).take (k + 1)) (-1)).2 x h1 r hr
   have h3 : ((scanB s).take (k + 1)).foldl stM (-1) < stamp := of_decide_eq_true hp
   exact decide_eq_false (by omega)
theorem chkI_0 {s : Sg} {l : List En} (h : chkI s l = 0) : rightB s = true ∧ l.Sublist (allE s) ∧ (allE s ≠ [] → l.head? = (allE s).head?) := by
 unfold chkI at h
 split at h
 · rename_i h1
   obtain ⟨h2, h3⟩ := chkE_iff.1 h1.2
   exact ⟨h1.1, h2, h3⟩
 · cases h
theorem find_from {s : Sg} {l : List En} {off : Int} (h : chkI s l = 0) {j : Nat} (hj : ∀ x ∈ (scanB s).take j, findP off x = false) : findS s l off = findL ((scanB s).drop j) off := by
 rw [findS, if_pos h, findL, findL, find_take hj]
theorem since_from {s : Sg} {l : List En} {stamp : Int} (h : chkI s l = 0) {j : Nat} (hj : ∀ x ∈ (scanB s).take j, ∀ r ∈ x.recs, recP stamp r = false) : sinceS s l stamp = sinceL ((scanB s).drop j) stamp := by
 rw [sinceS, if_pos h]
 unfold sinceL
 have e : (scanB s).flatMap Batch.recs = ((scanB s).take j).flatMap Batch.recs ++ ((scanB s).drop j).flatMap Batch.recs := by
   rw [← List.flatMap_append, List.take_append_drop]
 have hn : (((scanB s).take j).flatMap Batch.recs).find? (recP stamp) = none := List.find?_eq_none.2 fun r hr => by
   obtain ⟨x, hx, hrx⟩ := List.mem_flatMap.1 hr
   rw [hj x hx r hrx]
   simp
 rw [e, List.find?_append, hn]
 rfl
def Rises (every : Int) : List En → Prop
 | [] => True
 | [_] => True
 | a :: b :: l => (every ≤ b.pos - a.pos ∧ a.off < b.off ∧ a.stamp ≤ b.stamp) ∧ Rises every (b :: l)
theorem Rises.at_ {every : Int} : ∀ {l : List En} {i : Nat} {a b : En}, Rises every l → l[i]? = some a → l[i + 1]? = some b → every ≤ b.pos - a.pos ∧ a.off < b.off ∧ a.stamp ≤ b.stamp
 | [], _, _, _, _, h, _ => by simp at h
 | [_], i, _, _, _, _, h => by simp at h
 | x :: y :: l, 0, a, b, hr, ha, hb => by
   simp at ha hb
   subst ha hb
   exact hr.1
 | x :: y :: l, i + 1, a, b, hr, ha, hb => Rises.at_ (l := y :: l) hr.2 (by simpa using ha) (by simpa using hb)
def laI : Batch := ⟨0, 1, 0, 0, -1, 0, 0, false, 0, [⟨0, ⟨#[]⟩, ⟨#[120]⟩, false, 5⟩, ⟨1, ⟨#[]⟩, ⟨#[121]⟩, false, 7⟩]⟩
def lbI : Batch := ⟨2, 2, 2, 0, -1, 0, 0, false, 0, [⟨2, ⟨#[]⟩, ⟨#[122]⟩, false, 6⟩]⟩
theorem laI_err : errB laI = 0 := by decide +kernel
theorem lbI_err : errB lbI = 0 := by decide +kernel
theorem laI_len : (bytesB laI).length = 30 := by decide +kernel
theorem lbI_len : (bytesB lbI).length = 24 := by decide +kernel
def sgI : Sg := ⟨0, bytesB laI ++ bytesB lbI⟩
theorem scan_sa : Scans 0 (bytesB laI) [laI] [] := ⟨by simp [allB], fun x hx => by simp at hx; subst hx; exact laI_err, ⟨by decide, trivial⟩, more_nil⟩
theorem scan_sI : Scans 0 (bytesB laI ++ bytesB lbI) [laI, lbI] [] := ⟨by simp [allB], fun x hx => by
 simp at hx
 rcases hx with rfl | rfl
 · exact laI_err
 · exact lbI_err, ⟨by decide, by decide, trivial⟩, more_nil⟩
theorem goods_of {s : Sg} {W : List Batch} (h : Scans s.base s.bytes W []) : scanB s = W ∧ goodB s = s.bytes.length ∧ endB s = nextB s.base W := by
 have h1 := h.is
 have h2 : s.bytes = allB W := by rw [h.eq, List.append_nil]
 refine ⟨h1, ?_, ?_⟩
 · rw [goodB, h1, ← h2]
 · rw [endB, h1]
theorem app_aI : appS ⟨0, []⟩ laI 1000 = (⟨0, bytesB laI⟩, 0) := appS_0 ⟨rfl, by decide, by decide⟩ laI_err (by decide) (by simp [laI_len])
theorem app_bI : appS ⟨0, bytesB laI⟩ lbI 1000 = (sgI, 0) := by
 obtain ⟨h1, h2, h3⟩ := goods_of (s := ⟨0, bytesB laI⟩) scan_sa
 exact appS_0 ⟨h2, by decide, by decide⟩ lbI_err (by rw [h3]; decide) (by simp [laI_len, lbI_len])
theorem scan_I : scanB sgI = [laI, lbI] := (goods_of (s := sgI) scan_sI).1
theorem allE_I : allE sgI = [⟨0, 0, 7⟩, ⟨2, 30, 7⟩] := by
 rw [allE, scan_I]
 simp only [entB, laI_len]
 decide
theorem right_I : rightB sgI = true := rightB_iff.2 ⟨by decide, by simp [sgI, laI_len, lbI_len], (goods_of (s := sgI) scan_sI).2.1⟩
theorem make_I : makeS sgI 1 = ([⟨0, 0, 7⟩, ⟨2, 30, 7⟩], 0) := by
 rw [makeS, if_pos ⟨right_I, by decide, by decide⟩, allE_I]
 decide
theorem chk_I : chkI sgI [⟨0, 0, 7⟩, ⟨2, 30, 7⟩] = 0 := by
 rw [chkI, allE_I, if_pos ⟨right_I, by decide⟩]
theorem chk_I0 : chkI sgI [] = 1 := by
 rw [chkI, allE_I, if_neg fun h => absurd h.2 (by decide)]
theorem since_6 : sinceS sgI [⟨0, 0, 7⟩, ⟨2, 30, 7⟩] 6 = (1, 0) := by
 rw [sinceS, if_pos chk_I, scan_I]
 decide
theorem since_8 : sinceS sgI [⟨0, 0, 7⟩, ⟨2, 30, 7⟩] 8 = (0, 90) := by
 rw [sinceS, if_pos chk_I, scan_I]
 decide
theorem find_2 : findS sgI [⟨0, 0, 7⟩, ⟨2, 30, 7⟩] 2 = (lbI, 0) := by
 rw [findS, if_pos chk_I, scan_I]
 rfl
def mkR (every : Int) : List En → List En → List En
 | out, [] => out
 | out, e :: es => mkR every (match out.getLast? with | none => out ++ [e] | some z => if every ≤ e.pos - z.pos then out ++ [e] else out) es
theorem mkR_eq (every : Int) : ∀ (es out : List En) (z : En), out.getLast? = some z → mkR every out es = out ++ mkE every (z.pos + every) es
 | [], out, z, _ => by simp [mkR, mkE]
 | e :: es, out, z, h => by
   rw [mkR, h, mkE]
   by_cases h1 : every ≤ e.pos - z.pos
   · simp only [h1, if_true]
     rw [if_pos (by omega), mkR_eq every es (out ++ [e]) e (by simp), List.append_assoc]
     rfl
   · simp only [h1, if_false]
     rw [if_neg (by omega), mkR_eq every es out z h]
theorem mkR_mk {every : Int} {es : List En} (h : ∀ e, es.head? = some e → e.pos = 0) : mkR every [] es = mkE every 0 es := by
 cases es with
 | nil => rfl
 | cons e es =>
   have h0 := h e rfl
   rw [mkR, mkE, if_pos (by omega)]
   simp only [List.getLast?_nil, List.nil_append]
   rw [mkR_eq every es [e] e rfl]
   rfl
theorem take_snoc {α : Type} {l : List α} {k : Nat} {x : α} (h : l[k]? = some x) : l.take (k + 1) = l.take k ++ [x] := by
 rw [List.take_add_one, h]
 rfl
theorem drop_snoc {α : Type} {l : List α} {k : Nat} {x : α} (h : l[k]? = some x) : l.drop k = x :: l.drop (k + 1) := by
 obtain ⟨h1, h2⟩ := List.getElem?_eq_some_iff.1 h
 rw [List.drop_eq_getElem_cons h1, h2]
theorem lastE_snoc (p : En → Bool) (l : List En) (e : En) : lastE p (l ++ [e]) = if p e = true then e.pos else lastE p l := by
 unfold lastE
 rw [List.filter_append]
 by_cases h : p e = true
 · simp [h]
 · simp [h]
theorem lastE_at1 (p : En → Bool) {l : List En} {k : Nat} {e : En} (h : l[k]? = some e) : lastE p (l.take (k + 1)) = if p e = true then e.pos else lastE p (l.take k) := by
 rw [take_snoc h, lastE_snoc]
theorem subB_at {l es : List En} {n i : Nat} {e : En} (h : es[i]? = some e) : subB (l.drop n) (es.drop i) = if l[n]? = some e then subB (l.drop (n + 1)) (es.drop (i + 1)) else subB (l.drop n) (es.drop (i + 1)) := by
 rw [drop_snoc h]
 cases hn : l[n]? with
 | none =>
   have hd : l.drop n = [] := List.drop_eq_nil_of_le (List.getElem?_eq_none_iff.1 hn)
   rw [hd, if_neg (by simp), subB_nil, subB_nil]
 | some x =>
   rw [drop_snoc hn, subB]
   by_cases hx : x = e
   · subst hx
     simp
   · rw [if_neg hx, if_neg (by simpa using hx)]
theorem chkE_at {l es : List En} {e : En} (h : es[0]? = some e) : chkE l es = if l[0]? = some e then subB (l.drop 1) (es.drop 1) else false := by
 cases es with
 | nil => simp at h
 | cons z es =>
   simp at h
   subst h
   cases l with
   | nil => rfl
   | cons x l => simp [chkE]
theorem subB_end (l : List En) (n : Nat) : subB (l.drop n) [] = decide (l.length ≤ n) := by
 cases h : l.drop n with
 | nil => simp at h; simp [subB, h]
 | cons x t =>
   have : (l.drop n).length = t.length + 1 := by rw [h]; rfl
   rw [List.length_drop] at this
   simp [subB]
   omega
theorem mkE_at {every nx : Int} {es : List En} {k : Nat} {e : En} (h : es[k]? = some e) : mkE every nx (es.drop k) = if nx ≤ e.pos then e :: mkE every (e.pos + every) (es.drop (k + 1)) else mkE every nx (es.drop (k + 1)) := by
 rw [drop_snoc h, mkE]
theorem mkR_snoc (every : Int) : ∀ (es out : List En) (e : En), mkR every out (es ++ [e]) = match (mkR every out es).getLast? with | none => mkR every out es ++ [e] | some z => if every ≤ e.pos - z.pos then mkR every out es ++ [e] else mkR every out es
 | [], out, e => rfl
 | x :: es, out, e => by
   rw [List.cons_append, mkR, mkR_snoc every es _ e]
   rfl
theorem findL_at {bs : List Batch} {off : Int} {j : Nat} {x : Batch} (h : bs[j]? = some x) : findL (bs.drop j) off = if off ≤ x.last then (x, 0) else findL (bs.drop (j + 1)) off := by
 rw [findL, findL, drop_snoc h, List.find?_cons]
 by_cases hx : off ≤ x.last
 · simp [findP, hx]
 · simp [findP, hx]
theorem findL_nil (off : Int) : findL [] off = (noneB, 90) := rfl
theorem find_at {α : Type} {p : α → Bool} {l : List α} {k : Nat} {x : α} (h : ∀ y ∈ l.take k, p y = false) (hx : l[k]? = some x) (hp : p x = true) : l.find? p = some x := by
 rw [find_take h, drop_snoc hx, List.find?_cons, hp]
theorem find_none {α : Type} {p : α → Bool} {l : List α} (h : ∀ y ∈ l, p y = false) : l.find? p = none := List.find?_eq_none.2 fun y hy => by rw [h y hy]; simp
theorem sinceL_at {bs : List Batch} {stamp : Int} {j : Nat} {x : Batch} (h : bs[j]? = some x) : sinceL (bs.drop j) stamp = match x.recs.find? (recP stamp) with | some r => (r.off, 0) | none => sinceL (bs.drop (j + 1)) stamp := by
 rw [drop_snoc h]
 unfold sinceL
 rw [List.flatMap_cons, List.find?_append]
 cases x.recs.find? (recP stamp) <;> rfl
theorem sinceL_nil (stamp : Int) : sinceL [] stamp = (0, 90) := rfl
theorem entAt_pos {nx : Int} {q r : List UInt8} {bs : List Batch} (h : Scans nx q bs r) {i : Nat} {x : Batch} (hx : bs[i]? = some x) : (entAt bs i x).pos = 0 ↔ i = 0 := by
 have h1 := (h.pre i).len.1
 have hl := (List.getElem?_eq_some_iff.1 hx).1
 rw [List.length_take, Nat.min_eq_left (by omega)] at h1
 show ((((allB (bs.take i)).length : Nat) : Int) = 0) ↔ i = 0
 constructor
 · intro h2; omega
 · rintro rfl; rfl
def stR (m : Int) (l : List Rec) : Int := l.foldl (fun m r => max m r.stamp) m
theorem stR_snoc {m : Int} {l : List Rec} {k : Nat} {r : Rec} (h : l[k]? = some r) : stR m (l.take (k + 1)) = max (stR m (l.take k)) r.stamp := by
 rw [take_snoc h, stR, List.foldl_append]
 rfl
theorem stM_R (m : Int) (b : Batch) : stM m b = stR m b.recs := rfl
theorem foldM_snoc {m : Int} {bs : List Batch} {k : Nat} {x : Batch} (h : bs[k]? = some x) : (bs.take (k + 1)).foldl stM m = stM ((bs.take k).foldl stM m) x := by
 rw [take_snoc h, List.foldl_append]
 rfl
theorem right_is {s : Sg} (h : rightB s = true) : s.bytes = allB (scanB s) := by
 obtain ⟨r, hs⟩ := scan_spec s
 have hg := (rightB_iff.1 h).2.2
 have e := hs.eq
 have hl := congrArg List.length e
 rw [List.length_append] at hl
 have hr : r = [] := List.eq_nil_of_length_eq_zero (by unfold goodB at hg; omega)
 rw [hr, List.append_nil] at e
 exact e
theorem F33 : Fun Try.prog 33 31 v33 c33 o33 := Fun.mk' Try.func33 Try.ntmps33 (by kernel_rfl) (by kernel_rfl) s33 q33
theorem F34 : Fun Try.prog 34 4 v34 c34 o34 := Fun.mk' Try.func34 Try.ntmps34 (by kernel_rfl) (by kernel_rfl) s34 q34
theorem F52 : Fun Try.prog 52 44 v52 c52 o52 := Fun.mk' Try.func52 Try.ntmps52 (by kernel_rfl) (by kernel_rfl) s52 q52
theorem F12 : Fun Try.prog 12 14 v12 c12 o12 := Fun.mk' Try.func12 Try.ntmps12 (by kernel_rfl) (by kernel_rfl) s12 q12
def cellE (e : En) : List Value := [.int .i64 e.off, .int .i64 e.pos, .int .i64 e.stamp]
def EnE (e : En) (cs : List Value) : Prop := cs = cellE e
def RightR (s : Sg) (G' : Nat → Option Obj) (L' : List Kx.Item) (r : Value) : Prop := ∃ u bs zc, r = .tuple #[u, .bool (rightB s)] ∧ (rightB s = true → bs = scanB s) ∧ Cells (BE G') 10 bs zc ∧ L' = [.row u 38 10 bs.length zc]
theorem right_ok (s : Sg) (cs : List Value) (G : Nat → Option Obj) (hs : SE G s cs) : FnO Try.prog 33 #[.agg cs.toArray] G [] (fun G' L' r => RightR s G' L' r) := by
 have hs0 := hs
 obtain ⟨A, c, rfl, hl, hi⟩ := hs
 refine F33.fnO (by simp) noRegs_nil (go_of ?_)
 unfold c33
 unfold cellS at hs0 ⊢
 (intros; try refine go_st ?_); refine go_r 0 0 (by decide) ?_; (refine sJ c33r0.eq_1 ?_; try with_reducible exact True.intro)
 have hbad : ¬ rightB s = true → ∀ (fr : List Td) (e : Env), go none Try.prog 31 v33.1 v33.2 (retQ o33 fun v h => RightR s h.G h.L v) (Td.s ((SC.reg false c33r2).seq .ret) :: fr) e ⟨G, [.reg 1 [.int .i64 s.base, .slice A s.bytes.length c]], []⟩ := fun hn fr e => by
   (intros; try refine go_st ?_); refine go_r 0 0 (by decide) ?_; (refine sJ c33r2.eq_1 ?_; try with_reducible exact True.intro)
   (intros; try refine go_st ?_)
   refine go_ghost (ghost_nil none 38 10) ?_
   refine go_ret (retQ_o _ rfl (.cons_cons _ (List.nil_sublist _)) (noRegs_row noRegs_nil) ?_)
   exact ⟨_, [], [], by rw [show rightB s = false by simpa using hn]; rfl, fun h => absurd h hn, .nil, rfl⟩
 (intros; try refine go_st ?_); refine go_r 7 19 (by decide) ?_; (refine sJ c33r1.eq_1 ?_; try with_reducible exact True.intro)
 refine gd (fun k1 => ?_) (fun k1 => ?_)
 · (refine sI ?_; try with_reducible exact True.intro)
   (intros; try refine go_st ?_); refine go_c ?_; (refine sI ?_; try with_reducible exact True.intro)
   have k1 := of_decide_eq_true k1
   exact hbad (fun h => by have := (rightB_iff.1 h).1; simp [inO] at this; omega) _ _
 have k1 := of_decide_eq_false k1
 (refine sI ?_; try with_reducible exact True.intro)
 refine gd (fun k2 => ?_) (fun k2 => ?_)
 · (refine sI ?_; try with_reducible exact True.intro)
   (intros; try refine go_st ?_); refine go_c ?_; (refine sI ?_; try with_reducible exact True.intro)
   have k2 := of_decide_eq_true k2
   exact hbad (fun h => by have := (rightB_iff.1 h).1; simp [inO] at this; omega) _ _
 have k2 := of_decide_eq_false k2
 (refine sI ?_; try with_reducible exact True.intro)
 (intros; try refine go_st ?_); refine go_c ?_; (refine sI ?_; try with_reducible exact True.intro)
 refine gb (fun k3 => ?_) (fun k3 => ?_)
 · have k3 := of_decide_eq_true k3
   exact hbad (fun h => by have := (rightB_iff.1 h).2.1; omega) _ _
 have k3 := of_decide_eq_false k3
 clear hbad
 (repeat first | (with_reducible intro _) | refine go_skip ?_ | refine go_b ?_)
 (intros; try refine go_st ?_); refine go_r 20 25 (by decide) ?_; (refine sJ c33r3.eq_1 ?_; try with_reducible exact True.intro)
 refine (Scan_ok s _ G hs0 (by omega) _ _).mono ?_
 rintro r h' ⟨G1, L', rfl, hg1, u, zc, rfl, hzc, rfl⟩
 have hr : rightB s = decide (((goodB s : Nat) : Int) = (s.bytes.length : Int)) := by
   have hb : inO s.base = true := by simp [inO]; omega
   have hl : decide (s.bytes.length ≤ 4096) = true := decide_eq_true (by omega)
   rw [rightB, hb, hl, Bool.true_and, Bool.true_and]
   exact decide_eq_decide.2 (by omega)
 (refine sI ?_; try with_reducible exact True.intro)
 (repeat (with_reducible intro _)); try refine go_seq ?_
 (intros; try refine go_st ?_); refine go_q 25 31 (by decide) ?_; (refine sJ c33r4.eq_1 ?_; try with_reducible exact True.intro)
 (intros; try refine go_st ?_)
 refine go_ret (retQ_o _ rfl (.cons_cons _ (List.nil_sublist _)) (noRegs_row noRegs_nil) ?_)
 exact ⟨u, _, zc, by rw [hr]; rfl, fun _ => rfl, hzc, rfl⟩
theorem few_ok (s : Sg) (cs : List Value) (A : Option Addr) (n c : Nat) (G : Nat → Option Obj) (hs : SE G s cs) : FnS Try.prog 12 #[.agg cs.toArray, .slice A n c] G (.bool (decide (s.bytes.length ≤ 3000) && decide (n ≤ 200))) := by
 obtain ⟨B, d, rfl, hl, hi⟩ := hs
 have hd : decide ((s.bytes.length : Int) ≤ 3000) = decide (s.bytes.length ≤ 3000) := decide_eq_decide.2 (by omega)
 have hd2 : decide ((n : Int) ≤ 200) = decide (n ≤ 200) := decide_eq_decide.2 (by omega)
 refine F12.fnS (by simp) (go_of ?_)
 unfold c12 cellS
 (intros; try refine go_st ?_); refine go_r 0 0 (by decide) ?_; (refine sJ c12r0.eq_1 ?_; try with_reducible exact True.intro)
 (intros; try refine go_st ?_); refine go_r 6 14 (by decide) ?_; (refine sJ3 c12r1.eq_1 @hd @hd2 ?_; try with_reducible exact True.intro)
 refine gd (fun h => ?_) (fun h => ?_)
 · (refine sI ?_; try with_reducible exact True.intro)
   (intros; try refine go_st ?_)
   refine go_ret (retQ_v rfl ?_); simp only [push_cast, Nat.reduceBEq]
   rw [h, Bool.true_and, hd2]
 · (refine sI ?_; try with_reducible exact True.intro)
   (intros; try refine go_st ?_)
   refine go_ret (retQ_v rfl ?_); simp only [push_cast, Nat.reduceBEq]
   rw [h, Bool.false_and]
def EA (bs : List Batch) (G : Nat → Option Obj) (k : Nat) (args : Array Value) : Prop := ∃ x cs, bs[k]? = some x ∧ BE G x cs ∧ args = #[.agg #[.int .i64 x.base, .int .i64 (((allB (bs.take k)).length : Nat) : Int), .int .i64 ((bs.take (k + 1)).foldl stM (-1))], .agg cs.toArray]
theorem entries1_iter (bs : List Batch) (A : Option Addr) (c b : Nat) (G0 : Nat → Option Obj) (hc : bs.length ≤ c) (hm : c ≤ maxLen) (hA : SlA G0 (BE G0) 10 A bs) (hok : ∀ x ∈ bs, errB x = 0) (hlen : (allB bs).length ≤ 1000000) (h1 : cellG G0 ⟨b, 0, none⟩ = some (.slice A bs.length c)) :
   IterH Try.prog 52 #[.pointer (some ⟨b, 0, none⟩)] (List.range bs.length) (EA bs) G0 := by
 intro yl I Ix G L hG hn hI hIx hmo hi0 hy L2 D
 have hargs : (#[.func (.yield yl) #[] #[]] ++ #[.pointer (some ⟨b, 0, none⟩)] : Array Value) = #[.func (.yield yl) #[] #[], .pointer (some ⟨b, 0, none⟩)] := rfl
 rw [hargs, List.length_range]
 refine (F52.calls (R := fun _ h => Gle G h.G ∧ (I bs.length h.G h.L ∨ ∃ i, i < bs.length ∧ Ix i h.G h.L)) (by simp) hn (go_of ?_) L2 D).mono ?_
 rotate_left
 · rintro v h' ⟨G', L', rfl, hn', hgg, hr⟩
   exact ⟨G', L', rfl, hgg, hn', hr⟩
 have e1 := cellG_le hG h1
 have hAG := hA.le hG (E' := BE G) fun _ _ h => BE.le hG h
 have hrm3 := rmR_no (s := 3) hn
 unfold c52
 (intros; try refine go_st ?_); refine go_r 8 9 (by decide) ?_; (refine sJ c52r0.eq_1 ?_; try with_reducible exact True.intro)
 (refine sJ @hrm3 ?_; try with_reducible exact True.intro)
 (intros; try refine go_st ?_); refine go_r 0 0 (by decide) ?_; (refine sJ c52r1.eq_1 ?_; try with_reducible exact True.intro)
 refine ⟨_, ⟨_, rfl, .g e1⟩, ?_⟩
 (refine sI ?_; try with_reducible exact True.intro)
 (intros; try refine go_st ?_)
 refine go_loop (fun e h => ∃ (t : Nat) (o : Int) (G' : Nat → Option Obj) (L' : List Kx.Item), (t ≤ bs.length ∧ Gle G G' ∧ NoRegs L' ∧ I t G' L') ∧ e 0 = .func (.yield yl) #[] #[] ∧ e 9 = .slice A bs.length c ∧ e 10 = .int .i64 bs.length ∧ e 11 = .int .i64 t ∧ h = ⟨G', .reg 3 [.int .i64 o, .int .i64 (((allB (bs.take t)).length : Nat) : Int), .int .i64 ((bs.take t).foldl stM (-1))] :: L', []⟩) (fun e h => bs.length - iv (e 11)) ?_ ?_
 · exact ⟨0, 0, G, L, ⟨Nat.zero_le _, .refl G, hn, hi0⟩, eE, eE, eE, eE, rfl⟩
 rintro e h ⟨t, o, G', L', ⟨ht, hgg, hn', hI'⟩, e0, e9, e10, e11, rfl⟩
 refine go_keep [0, 9, 10, 11] ?_
 (refine sJ4 @e0 @e9 @e10 @e11 ?_; try with_reducible exact True.intro)
 (intros; try refine go_st ?_); refine go_r 0 0 (by decide) ?_; (refine sJ c52r2.eq_1 ?_; try with_reducible exact True.intro)
 (intros; try refine go_st ?_); refine go_c ?_; (refine sI ?_; try with_reducible exact True.intro)
 refine gb (fun htl => ?_) (fun htl => ?_)
 · have htl : t < bs.length := by have := of_decide_eq_true htl; omega
   obtain ⟨x, hx⟩ : ∃ x, bs[t]? = some x := ⟨bs[t], List.getElem?_eq_getElem htl⟩
   have hAg := hAG.le hgg (E' := BE G') fun _ _ h => BE.le hgg h
   have hrm5 := rmR_no (s := 5) hn'
   have hrm7 := rmR_no (s := 7) hn'
   (repeat first | (with_reducible intro _) | refine go_skip ?_ | refine go_b ?_)
   (intros; try refine go_st ?_); refine go_r 13 15 (by decide) ?_; (refine sJ c52r3.eq_1 ?_; try with_reducible exact True.intro)
   refine hAg.x_ld hx rfl rfl ?_
   rintro a1 ha1 cs hbe
   have hbe0 := hbe
   have hsz := Size_ok x cs G' hbe
   obtain ⟨B, d, rfl, hB, -⟩ := hbe
   unfold cellH at hbe0 hsz ⊢
   (refine sJ @hrm5 ?_; try with_reducible exact True.intro)
   (intros; try refine go_st ?_); refine go_r 16 17 (by decide) ?_; (refine sJ c52r4.eq_1 ?_; try with_reducible exact True.intro)
   (refine sJ @hrm5 ?_; try with_reducible exact True.intro)
   (intros; try refine go_st ?_); refine go_r 0 0 (by decide) ?_; (refine sJ c52r5.eq_1 ?_; try with_reducible exact True.intro)
   (repeat (with_reducible intro _))
   obtain ⟨hBc, hBm, hBA⟩ := hB
   refine go_cut (fun e h => e 0 = .func (.yield yl) #[] #[] ∧ e 9 = .slice A bs.length c ∧ e 10 = .int .i64 bs.length ∧ e 11 = .int .i64 t ∧ h = ⟨G', [.reg 5 [.int .i64 x.base, .int .i64 x.last, .int .i64 x.src, .int .i64 x.epoch, .int .i64 x.pid, .int .i64 x.gen, .int .i64 x.seq, .bool x.txn, .int .i64 x.ctl, .slice B x.recs.length d], .reg 3 [.int .i64 x.base, .int .i64 (((allB (bs.take t)).length : Nat) : Int), .int .i64 (stR ((bs.take t).foldl stM (-1)) x.recs)]] ++ L', []⟩) ?_ ?_
   · (intros; try refine go_st ?_)
     refine go_loop (fun e h => ∃ k : Nat, k ≤ x.recs.length ∧ e 0 = .func (.yield yl) #[] #[] ∧ e 9 = .slice A bs.length c ∧ e 10 = .int .i64 bs.length ∧ e 11 = .int .i64 t ∧ e 19 = .slice B x.recs.length d ∧ e 20 = .int .i64 x.recs.length ∧ e 21 = .int .i64 k ∧ h = ⟨G', [.reg 5 [.int .i64 x.base, .int .i64 x.last, .int .i64 x.src, .int .i64 x.epoch, .int .i64 x.pid, .int .i64 x.gen, .int .i64 x.seq, .bool x.txn, .int .i64 x.ctl, .slice B x.recs.length d], .reg 3 [.int .i64 x.base, .int .i64 (((allB (bs.take t)).length : Nat) : Int), .int .i64 (stR ((bs.take t).foldl stM (-1)) (x.recs.take k))]] ++ L', []⟩) (fun e h => x.recs.length - iv (e 21)) ?_ ?_
     · exact ⟨0, Nat.zero_le _, eE, eE, eE, eE, eE, eE, eE, rfl⟩
     rintro e h ⟨k, hk, e0, e9, e10, e11, e19, e20, e21, rfl⟩
     refine go_keep [0, 9, 10, 11, 19, 20, 21] ?_
     (refine sJ7 @e0 @e9 @e10 @e11 @e19 @e20 @e21 ?_; try with_reducible exact True.intro)
     (intros; try refine go_st ?_); refine go_r 0 0 (by decide) ?_; (refine sJ c52r6.eq_1 ?_; try with_reducible exact True.intro)
     (intros; try refine go_st ?_); refine go_c ?_; (refine sI ?_; try with_reducible exact True.intro)
     refine gb (fun htk => ?_) (fun htk => ?_)
     · have htk : k < x.recs.length := by have := of_decide_eq_true htk; omega
       have hw := inc_i k d (by omega) hBm
       obtain ⟨r, hr⟩ : ∃ r, x.recs[k]? = some r := ⟨x.recs[k], List.getElem?_eq_getElem htk⟩
       have hst := stR_snoc (m := (bs.take t).foldl stM (-1)) hr
       (repeat first | (with_reducible intro _) | refine go_skip ?_ | refine go_b ?_)
       (intros; try refine go_st ?_); refine go_r 23 25 (by decide) ?_; (refine sJ c52r7.eq_1 ?_; try with_reducible exact True.intro)
       refine hBA.x_ld hr rfl rfl ?_
       rintro a2 ha2 cs ⟨rfl, -⟩
       unfold cellR
       (refine sJ @hrm7 ?_; try with_reducible exact True.intro)
       (intros; try refine go_st ?_); refine go_r 26 30 (by decide) ?_; (refine sJ c52r8.eq_1 ?_; try with_reducible exact True.intro)
       (refine sJ @hrm7 ?_; try with_reducible exact True.intro)
       (repeat first | (with_reducible intro _) | refine go_skip ?_ | refine go_b ?_)
       refine go_ghost (ghost_sub (L' := [.reg 5 [.int .i64 x.base, .int .i64 x.last, .int .i64 x.src, .int .i64 x.epoch, .int .i64 x.pid, .int .i64 x.gen, .int .i64 x.seq, .bool x.txn, .int .i64 x.ctl, .slice B x.recs.length d], .reg 3 [.int .i64 x.base, .int .i64 (((allB (bs.take t)).length : Nat) : Int), .int .i64 (max (stR ((bs.take t).foldl stM (-1)) (x.recs.take k)) r.stamp)]] ++ L') (.cons _ (List.Sublist.refl _))) ?_
       (intros; try refine go_st ?_); refine go_r 31 32 (by decide) ?_; (refine sJ2 c52r9.eq_1 @hw ?_; try with_reducible exact True.intro)
       (intros; try refine go_st ?_)
       refine go_l ⟨⟨k + 1, by omega, eE, eE, eE, eE, eE, eE, eE, by rw [hst]⟩, ?_⟩
       (refine sI ?_; try with_reducible exact True.intro)
       omega
     · have htk : k = x.recs.length := by have := of_decide_eq_false htk; omega
       subst htk
       refine go_exit ?_
       (refine sI ?_; try with_reducible exact True.intro)
       (repeat first | (with_reducible intro _) | refine go_skip ?_ | refine go_b ?_)
       exact go_l ⟨eE, eE, eE, eE, by rw [List.take_length]⟩
   rintro e h ⟨e0, e9, e10, e11, rfl⟩
   refine go_keep [0, 9, 10, 11] ?_
   (refine sJ4 @e0 @e9 @e10 @e11 ?_; try with_reducible exact True.intro)
   (repeat (with_reducible intro _))
   (intros; try refine go_st ?_); refine go_r 32 36 (by decide) ?_; (refine sJ c52r10.eq_1 ?_; try with_reducible exact True.intro)
   refine .inr ⟨yl, rfl, ?_⟩
   have hfm := foldM_snoc (m := -1) hx
   rw [stM_R] at hfm
   refine YieldH.ghost (ghost_perm (L' := L' ++ [.reg 5 [.int .i64 x.base, .int .i64 x.last, .int .i64 x.src, .int .i64 x.epoch, .int .i64 x.pid, .int .i64 x.gen, .int .i64 x.seq, .bool x.txn, .int .i64 x.ctl, .slice B x.recs.length d], .reg 3 [.int .i64 x.base, .int .i64 (((allB (bs.take t)).length : Nat) : Int), .int .i64 (stR ((bs.take t).foldl stM (-1)) x.recs)]]) (List.perm_append_comm (l₁ := [_, _]))) ?_
   refine (hy t t _ G' L' (List.getElem?_range htl) hgg ⟨x, _, hx, hbe0, by rw [hfm]⟩ hI' _ []).mono ?_
   rintro v h' ⟨G2, L3, rfl, hg2, hn2, hr⟩
   rcases hr with ⟨rfl, hr⟩ | ⟨rfl, hr⟩
   · (refine sI ?_; try with_reducible exact True.intro)
     (intros; try refine go_st ?_); refine go_c ?_; (refine sI ?_; try with_reducible exact True.intro)
     (repeat first | (with_reducible intro _) | refine go_skip ?_ | refine go_b ?_)
     refine go_ghost (ghost_perm (L' := [.reg 5 [.int .i64 x.base, .int .i64 x.last, .int .i64 x.src, .int .i64 x.epoch, .int .i64 x.pid, .int .i64 x.gen, .int .i64 x.seq, .bool x.txn, .int .i64 x.ctl, .slice B x.recs.length d], .reg 3 [.int .i64 x.base, .int .i64 (((allB (bs.take t)).length : Nat) : Int), .int .i64 (stR ((bs.take t).foldl stM (-1)) x.recs)]] ++ L3) (List.perm_append_comm (l₂ := [_, _]))) ?_
     have hsz := Size_ok x _ G2 (BE.le hg2 hbe0)
     rw [sizeB, putB_0 (hok x (List.mem_of_getElem? hx))] at hsz
     have hat := allB_take hx
     have hle := allB_take_le bs (t + 1)
     rw [hat, List.length_append] at hle
     have hwa : IntKind.i64.wrap ((((allB (bs.take t)).length : Nat) : Int) + (((bytesB x).length : Nat) : Int)) = (((allB (bs.take (t + 1))).length : Nat) : Int) := by rw [hat, List.length_append, w64_id] <;> omega
     have hwt := inc_i t c (by omega) hm
     have hrm := rmR_no (s := 3) hn2
     (intros; try refine go_st ?_); refine go_y _ (List.Sublist.refl _) (by decide) ?_; (refine sJ c52r11.eq_1 ?_; try with_reducible exact True.intro)
     refine (hsz _ _).mono ?_; rintro _ _ ⟨rfl, rfl⟩; (refine sJ @hwa ?_; try with_reducible exact True.intro)
     (refine sJ2 c52r12.eq_1 @hwa ?_; try with_reducible exact True.intro)
     (repeat first | (with_reducible intro _) | refine go_skip ?_ | refine go_b ?_)
     refine go_ghost (ghost_sub (L' := .reg 3 [.int .i64 x.base, .int .i64 (((allB (bs.take (t + 1))).length : Nat) : Int), .int .i64 ((bs.take (t + 1)).foldl stM (-1))] :: L3) (by rw [hfm]; exact .cons _ (List.Sublist.refl _))) ?_
     (intros; try refine go_st ?_); refine go_r 43 44 (by decide) ?_; (refine sJ2 c52r13.eq_1 @hwt ?_; try with_reducible exact True.intro)
     (intros; try refine go_st ?_)
     refine go_l ⟨⟨t + 1, x.base, G2, L3, ⟨by omega, hgg.trans hg2, hn2, hr⟩, eE, eE, eE, eE, rfl⟩, ?_⟩
     (refine sI ?_; try with_reducible exact True.intro)
     omega
   · (refine sI ?_; try with_reducible exact True.intro)
     (intros; try refine go_st ?_); refine go_c ?_; (refine sI ?_; try with_reducible exact True.intro)
     (intros; try refine go_st ?_)
     refine go_ret (retQ_o L3 rfl (List.sublist_append_left _ _) hn2 ?_)
     exact ⟨hgg.trans hg2, .inr ⟨t, htl, hr⟩⟩
 · have htl : t = bs.length := by have := of_decide_eq_false htl; omega
   subst htl
   refine go_exit ?_
   (refine sI ?_; try with_reducible exact True.intro)
   refine go_nil ?_
   exact ⟨[], rfl, ⟨G', L', []⟩, ghost_sub (.cons _ (List.Sublist.refl _)), hn', hgg, .inl hI'⟩
theorem entries_ok (bs : List Batch) (v : Value) (G : Nat → Option Obj) (hl : SlV G (BE G) 10 v bs) (hok : ∀ x ∈ bs, errB x = 0) (hlen : (allB bs).length ≤ 1000000) :
   FnD Try.prog 34 #[v] G (fun G' r => ∃ b, r = .func (.func 52) #[] #[.pointer (some ⟨b, 0, none⟩)] ∧ IterH Try.prog 52 #[.pointer (some ⟨b, 0, none⟩)] (List.range bs.length) (EA bs) G') := by
 obtain ⟨A, c, rfl, hc, hm, hA⟩ := hl
 refine F34.fnD (by simp) (go_of ?_)
 unfold c34
 (intros; try refine go_st ?_); refine go_r 0 0 (by decide) ?_; (refine sJ c34r0.eq_1 ?_; try with_reducible exact True.intro)
 intro b1 hb1
 (intros; try refine go_st ?_)
 refine go_gx gx_blk ?_
 rintro h' ⟨G1, rfl, hg1, hc1⟩
 have e1 := hc1 0 _ rfl
 rw [add_off] at e1
 (intros; try refine go_st ?_); refine go_r 3 4 (by decide) ?_; (refine sJ c34r1.eq_1 ?_; try with_reducible exact True.intro)
 (intros; try refine go_st ?_)
 refine go_ret (retQ_v rfl ?_); simp only [push_cast, Nat.reduceBEq]
 exact ⟨b1, rfl, entries1_iter bs A c b1 G1 hc hm (hA.le hg1 fun _ _ h => BE.le hg1 h) hok hlen e1⟩
end Go.Proofs.Ytedljandnpigpaa
namespace Go.Proofs.Ytedljandnpigpaa
open Go Go.Kx Go.RowKit
theorem opens_ent (W : World) : Opens Try.prog W 53 EnE := fun H enc fuel cs x hx => by
 obtain ⟨hl, hf⟩ := opens_fields Try.underlying53 (by kernel_rfl) (by kernel_rfl) hx
 obtain ⟨v0, _, _, c0, t0⟩ := hf 0 _ rfl
 obtain ⟨v1, _, _, c1, t1⟩ := hf 1 _ rfl
 obtain ⟨v2, _, _, c2, t2⟩ := hf 2 _ rfl
 obtain ⟨n0, e0, w0⟩ := (opens_int Try.underlying3).at_ t0
 obtain ⟨n1, e1, w1⟩ := (opens_int Try.underlying3).at_ t1
 obtain ⟨n2, e2, w2⟩ := (opens_int Try.underlying3).at_ t2
 cases e0; cases e1; cases e2
 refine ⟨⟨n0, n1, n2⟩, ?_⟩
 match cs, hl with
 | [_, _, _], _ => cases c0; cases c1; cases c2; rfl
theorem opens_ents (W : World) : Opens Try.prog W 25 (fun (l : List En) cs => ∃ A c, cs = [.slice A l.length c] ∧ l.length ≤ c ∧ c ≤ maxLen ∧ SlA (allG W) EnE 3 A l) :=
 opens_slice Try.underlying25 (by kernel_rfl) (opens_ent W)
end Go.Proofs.Ytedljandnpigpaa
namespace Go.Proofs.Ytedljandnpigpaa
open Go Go.Kx
theorem F54 : Fun Try.prog 54 4 v54 c54 o54 := Fun.mk' Try.func54 Try.ntmps54 (by kernel_rfl) (by kernel_rfl) s54 q54
theorem F64 : Fun Try.prog 64 19 v64 c64 o64 := Fun.mk' Try.func64 Try.ntmps64 (by kernel_rfl) (by kernel_rfl) s64 q64
theorem F37 : Fun Try.prog 37 16 v37 c37 o37 := Fun.mk' Try.func37 Try.ntmps37 (by kernel_rfl) (by kernel_rfl) s37 q37
theorem F18 : Fun Try.prog 18 8 v18 c18 o18 := Fun.mk' Try.func18 Try.ntmps18 (by kernel_rfl) (by kernel_rfl) s18 q18
theorem F38 : Fun Try.prog 38 8 v38 c38 o38 := Fun.mk' Try.func38 Try.ntmps38 (by kernel_rfl) (by kernel_rfl) s38 q38
theorem F20 : Fun Try.prog 20 8 v20 c20 o20 := Fun.mk' Try.func20 Try.ntmps20 (by kernel_rfl) (by kernel_rfl) s20 q20
theorem F39 : Fun Try.prog 39 8 v39 c39 o39 := Fun.mk' Try.func39 Try.ntmps39 (by kernel_rfl) (by kernel_rfl) s39 q39
def EI (l : List En) (_ : Nat → Option Obj) (i : Nat) (args : Array Value) : Prop := ∃ x, l[i]? = some x ∧ args = #[.int .i64 i, .agg #[.int .i64 x.off, .int .i64 x.pos, .int .i64 x.stamp]]
theorem rev_at {n t : Nat} (h : t < n) : (List.range n).reverse[t]? = some (n - 1 - t) := by
 rw [List.getElem?_reverse (by simpa using h), List.length_range, List.getElem?_range (by omega)]
theorem rev_lt {n t i : Nat} (h : (List.range n).reverse[t]? = some i) : t < n ∧ i = n - 1 - t := by
 have h1 : t < n := by have := (List.getElem?_eq_some_iff.1 h).1; simpa using this
 rw [rev_at h1] at h
 cases h
 exact ⟨h1, rfl⟩
theorem Backward1_iter (l : List En) (A : Option Addr) (c b : Nat) (G0 : Nat → Option Obj) (hc : l.length ≤ c) (hm : c ≤ maxLen) (hA : SlA G0 EnE 3 A l) (h1 : cellG G0 ⟨b, 0, none⟩ = some (.slice A l.length c)) :
   IterH Try.prog 64 #[.pointer (some ⟨b, 0, none⟩)] (List.range l.length).reverse (EI l) G0 := by
 intro yl I Ix G L hG hn hI hIx hmo h0 hy L2 D
 have hargs : (#[.func (.yield yl) #[] #[]] ++ #[.pointer (some ⟨b, 0, none⟩)] : Array Value) = #[.func (.yield yl) #[] #[], .pointer (some ⟨b, 0, none⟩)] := rfl
 rw [hargs]
 refine (F64.calls (R := fun _ h => Gle G h.G ∧ (I l.length h.G h.L ∨ ∃ i, i < l.length ∧ Ix i h.G h.L)) (by simp) hn (go_of ?_) L2 D).mono ?_
 · have e1 := cellG_le hG h1
   unfold c64
   (intros; try refine go_st ?_); refine go_r 4 7 (by decide) ?_; (refine sJ c64r0.eq_1 ?_; try with_reducible exact True.intro)
   refine ⟨_, ⟨_, rfl, .g e1⟩, ?_⟩
   have hw0 : IntKind.i64.wrap ((l.length : Int) - 1) = (l.length : Int) - 1 := by unfold maxLen at hm; rw [w64_id] <;> omega
   (refine sJ @hw0 ?_; try with_reducible exact True.intro)
   (intros; try refine go_st ?_)
   refine go_loop (fun e h => ∃ (t : Nat) (G' : Nat → Option Obj) (L' : List Kx.Item), (t ≤ l.length ∧ Gle G G' ∧ NoRegs L' ∧ I t G' L') ∧ e 3 = .int .i64 ((l.length : Int) - 1 - t) ∧ e 0 = .func (.yield yl) #[] #[] ∧ e 1 = .pointer (some ⟨b, 0, none⟩) ∧ h = ⟨G', L', []⟩) (fun e h => iv1 (e 3)) ?_ ?_
   · refine ⟨0, G, L, ⟨Nat.zero_le _, .refl G, hn, h0⟩, ?_, rfl, rfl, rfl⟩
     (refine sI ?_; try with_reducible exact True.intro)
     simp
   · rintro e h ⟨t, G', L', ⟨ht, hgg, hn', hI'⟩, e3, e0, e1', rfl⟩
     refine go_keep [0, 1, 3] ?_
     (refine sJ3 @e0 @e1' @e3 ?_; try with_reducible exact True.intro)
     (intros; try refine go_st ?_); refine go_r 7 8 (by decide) ?_; (refine sJ c64r1.eq_1 ?_; try with_reducible exact True.intro)
     (intros; try refine go_st ?_); refine go_c ?_; (refine sI ?_; try with_reducible exact True.intro)
     refine gb (fun h2 => ?_) (fun h2 => ?_)
     · have htl : t < l.length := by simp at h2; omega
       obtain ⟨x, hx⟩ : ∃ x, l[l.length - 1 - t]? = some x := ⟨l[l.length - 1 - t], List.getElem?_eq_getElem (by omega)⟩
       have e1g := cellG_le hgg e1
       have hAg := (hA.le hG fun _ _ h => h).le hgg fun _ _ h => h
       have hcast : (l.length : Int) - 1 - t = ((l.length - 1 - t : Nat) : Int) := by omega
       (intros; try refine go_st ?_); refine go_r 11 18 (by decide) ?_; (refine sJ c64r2.eq_1 ?_; try with_reducible exact True.intro)
       refine ⟨_, ⟨_, rfl, .g e1g⟩, ?_⟩
       (refine sI ?_; try with_reducible exact True.intro)
       refine hAg.x_ld hx hcast rfl ?_
       rintro a1 ha1 cs hcs
       cases (show cs = cellE x from hcs)
       unfold cellE
       (refine sI ?_; try with_reducible exact True.intro)
       refine .inr ⟨yl, rfl, ?_⟩
       refine (yield_nil hy (rev_at htl) hgg ⟨x, hx, by rw [hcast]⟩ hI').mono ?_
       rintro v h' ⟨G2, L3, rfl, hg2, hn2, hr⟩
       rcases hr with ⟨rfl, hr⟩ | ⟨rfl, hr⟩
       · (refine sI ?_; try with_reducible exact True.intro)
         (intros; try refine go_st ?_); refine go_c ?_; (refine sI ?_; try with_reducible exact True.intro)
         have hw : IntKind.i64.wrap ((l.length : Int) - 1 - t - 1) = (l.length : Int) - 1 - ((t + 1 : Nat) : Int) := by unfold maxLen at hm; rw [w64_id] <;> omega
         (intros; try refine go_st ?_); refine go_r 9 11 (by decide) ?_; (refine sJ2 c64r3.eq_1 @hw ?_; try with_reducible exact True.intro)
         (intros; try refine go_st ?_)
         refine go_l ⟨⟨t + 1, G2, L3, ⟨by omega, hgg.trans hg2, hn2, hr⟩, eE, eE, eE, rfl⟩, ?_⟩
         (refine sJ @iv1_i ?_; try with_reducible exact True.intro)
         omega
       · (refine sI ?_; try with_reducible exact True.intro)
         (intros; try refine go_st ?_); refine go_c ?_; (refine sI ?_; try with_reducible exact True.intro)
         (intros; try refine go_st ?_)
         refine go_ret (retQ_o L3 rfl (List.Sublist.refl _) hn2 ?_)
         exact ⟨hgg.trans hg2, .inr ⟨t, htl, hr⟩⟩
     · have htl : t = l.length := by simp at h2; omega
       subst htl
       refine go_exit ?_
       (refine sI ?_; try with_reducible exact True.intro)
       refine go_nil ?_
       exact ⟨[], rfl, ⟨G', L', []⟩, ghost_sub (List.Sublist.refl _), hn', hgg, .inl hI'⟩
 · rintro v h' ⟨G', L', rfl, hn', hgg, hr⟩
   exact ⟨G', L', rfl, hgg, hn', by simpa using hr⟩
theorem Backward_ok (l : List En) (A : Option Addr) (c : Nat) (G : Nat → Option Obj) (hc : l.length ≤ c) (hm : c ≤ maxLen) (hA : SlA G EnE 3 A l) :
   FnD Try.prog 54 #[.slice A l.length c] G (fun G' r => ∃ b, r = .func (.func 64) #[] #[.pointer (some ⟨b, 0, none⟩)] ∧ IterH Try.prog 64 #[.pointer (some ⟨b, 0, none⟩)] (List.range l.length).reverse (EI l) G') := by
 refine F54.fnD (by simp) (go_of ?_)
 unfold c54
 (intros; try refine go_st ?_); refine go_r 0 0 (by decide) ?_; (refine sJ c54r0.eq_1 ?_; try with_reducible exact True.intro)
 intro b1 hb1
 (intros; try refine go_st ?_)
 refine go_gx gx_blk ?_
 rintro h' ⟨G1, rfl, hg1, hc1⟩
 have e1 := hc1 0 _ rfl
 rw [add_off] at e1
 (intros; try refine go_st ?_); refine go_r 3 4 (by decide) ?_; (refine sJ c54r1.eq_1 ?_; try with_reducible exact True.intro)
 (intros; try refine go_st ?_)
 refine go_ret (retQ_v rfl ?_); simp only [push_cast, Nat.reduceBEq]
 exact ⟨b1, rfl, Backward1_iter l A c b1 G1 hc hm (hA.le hg1 fun _ _ h => h) e1⟩
theorem last_ok (l : List En) (p : En → Bool) (f : Nat) (cap : Array Value) (v : Value) (G : Nat → Option Obj) (hl : SlV G EnE 3 v l) (hp : ∀ G', Gle G G' → ∀ e, FnS Try.prog f (#[.agg (cellE e).toArray] ++ cap) G' (.bool (p e))) :
   FnS Try.prog 37 #[v, .func (.func f) #[] cap] G (.int .i64 (lastE p l)) := by
 obtain ⟨A, c, rfl, hc, hm, hA⟩ := hl
 refine F37.fnS (by simp) (go_of ?_)
 unfold c37
 (intros; try refine go_st ?_); refine go_r 0 0 (by decide) ?_; (refine sJ c37r0.eq_1 ?_; try with_reducible exact True.intro)
 intro b3 hb3 b4 hb4
 (intros; try refine go_st ?_)
 refine go_gx (gx_blk_at [_] _) ?_
 rintro h' ⟨G1, rfl, hg1, f3⟩
 have e3 := f3 0 _ rfl
 rw [add_off] at e3
 (intros; try refine go_st ?_); refine go_r 7 8 (by decide) ?_; (refine sJ c37r1.eq_1 ?_; try with_reducible exact True.intro)
 refine (Backward_ok l A c G1 hc hm (hA.le hg1 fun _ _ h => h) _ _).mono ?_
 rintro r h' ⟨G2, rfl, hg2, b, rfl, hit⟩
 (refine sI ?_; try with_reducible exact True.intro)
 (intros; try refine go_st ?_)
 have fin : ∀ (m : Int) (G6 : Nat → Option Obj) (D : List Nat) (e : Env), m = lastE p l → e 4 = .pointer (some ⟨b4, 0, none⟩) → retQ o37 (fun v (_ : H) => v = .int .i64 (lastE p l)) .ret e ⟨G6, [.blk b4 [.int .i64 m]], D⟩ := fun m G6 D e hm e4 => by
   subst hm
   exact retQ_v (resV_c (b := b4) (v := .int .i64 (lastE p l)) e4 (getB_h _ _ _)) rfl
 refine go_rf (α := Nat) (fun k G' L' => L' = [.blk b4 [.int .i64 0]] ∧ lastE p l = lastE p (l.take (l.length - k))) (fun ex k G' L' => ex = .ret ∧ L' = [.blk b4 [.int .i64 (lastE p l)]]) (eE) F64.enters (noRegs_blk noRegs_nil)
   (fun i G G' L hg h => h) hit (fun G x args h => by obtain ⟨y, _, rfl⟩ := h; rfl) ⟨rfl, by rw [Nat.sub_zero, List.take_length]⟩ ?_ ?_ ?_
 · rintro yl k i args G' L' hki hgl ⟨x, hx, rfl⟩ ⟨rfl, hlast⟩ _
   obtain ⟨hkl, rfl⟩ := rev_lt hki
   have e3' := cellG_le (hg2.trans hgl) e3
   have hpx := hp G' (hg1.trans (hg2.trans hgl)) x
   have hst := lastE_at1 p hx
   rw [show l.length - 1 - k + 1 = l.length - k by omega, ← hlast] at hst
   unfold cellE at hpx
   (refine sI ?_; try with_reducible exact True.intro)
   (intros; try refine go_st ?_); refine go_r 0 0 (by decide) ?_; (refine sJ c37r2.eq_1 ?_; try with_reducible exact True.intro)
   intro bb
   refine go_nil (rnd_a ?_)
   (intros; try refine go_st ?_); refine go_r 11 13 (by decide) ?_; (refine sJ c37r3.eq_1 ?_; try with_reducible exact True.intro)
   refine ⟨_, ⟨_, rfl, .g e3'⟩, ?_⟩
   (refine sI ?_; try with_reducible exact True.intro)
   refine .inl ⟨f, cap, rfl, (hpx _ _).mono ?_⟩
   rintro _ _ ⟨rfl, rfl⟩
   (refine sI ?_; try with_reducible exact True.intro)
   (intros; try refine go_st ?_); refine go_c ?_; (refine sI ?_; try with_reducible exact True.intro)
   refine gb (fun h1 => ?_) (fun h1 => ?_)
   · rw [if_pos h1] at hst
     (intros; try refine go_st ?_); refine go_r 15 16 (by decide) ?_; (refine sJ c37r4.eq_1 ?_; try with_reducible exact True.intro)
     refine stX_blk [_] [] rfl (by simp) ⟨rfl, rfl⟩ ?_
     (refine sI ?_; try with_reducible exact True.intro)
     (intros; try refine go_st ?_)
     refine go_ret (rnd_r _ (.cons _ (List.Sublist.refl _)) (noRegs_blk noRegs_nil) ⟨rfl, ?_⟩)
     rw [hst]
   · have h1 : ¬ p x = true := by simpa using h1
     rw [if_neg h1] at hst
     (repeat first | (with_reducible intro _) | refine go_skip ?_ | refine go_b ?_)
     refine go_nil (rnd_n _ (.cons _ (List.Sublist.refl _)) (noRegs_blk noRegs_nil) ⟨rfl, ?_⟩)
     rw [hst, show l.length - (k + 1) = l.length - 1 - k by omega]
 · rintro G' L' dd hgl ⟨rfl, hlast⟩ _
   rw [List.length_reverse, List.length_range, Nat.sub_self] at hlast
   (intros; try refine go_st ?_); refine go_r 0 0 (by decide) ?_; (refine sJ c37r5.eq_1 ?_; try with_reducible exact True.intro)
   refine stX_blk [] [] rfl (by simp) ⟨rfl, rfl⟩ ?_
   (refine sI ?_; try with_reducible exact True.intro)
   (intros; try refine go_st ?_)
   refine go_ret (fin 0 _ _ _ (by rw [hlast]; rfl) ?_)
   (refine sI ?_; try with_reducible exact True.intro)
 · rintro ex i G' L' d _ _ ⟨rfl, rfl⟩ _
   refine fin _ _ _ _ rfl ?_
   (refine sI ?_; try with_reducible exact True.intro)
theorem Floor1_ok (e : En) (off : Int) (b : Nat) (G : Nat → Option Obj) (h : cellG G ⟨b, 0, none⟩ = some (.int .i64 off)) : FnS Try.prog 38 #[.agg (cellE e).toArray, .pointer (some ⟨b, 0, none⟩)] G (.bool (offP off e)) := by
 refine F38.fnS (by simp) (go_of ?_)
 unfold c38 cellE
 (intros; try refine go_st ?_); refine go_r 0 0 (by decide) ?_; (refine sJ c38r0.eq_1 ?_; try with_reducible exact True.intro)
 (intros; try refine go_st ?_); refine go_r 5 8 (by decide) ?_; (refine sJ c38r1.eq_1 ?_; try with_reducible exact True.intro)
 refine ⟨_, ⟨_, rfl, .g h⟩, ?_⟩
 (refine sI ?_; try with_reducible exact True.intro)
 (intros; try refine go_st ?_)
 refine go_ret (retQ_v rfl ?_); simp only [push_cast, Nat.reduceBEq]
 rfl
theorem When1_ok (e : En) (stamp : Int) (b : Nat) (G : Nat → Option Obj) (h : cellG G ⟨b, 0, none⟩ = some (.int .i64 stamp)) : FnS Try.prog 39 #[.agg (cellE e).toArray, .pointer (some ⟨b, 0, none⟩)] G (.bool (stP stamp e)) := by
 refine F39.fnS (by simp) (go_of ?_)
 unfold c39 cellE
 (intros; try refine go_st ?_); refine go_r 0 0 (by decide) ?_; (refine sJ c39r0.eq_1 ?_; try with_reducible exact True.intro)
 (intros; try refine go_st ?_); refine go_r 5 8 (by decide) ?_; (refine sJ c39r1.eq_1 ?_; try with_reducible exact True.intro)
 refine ⟨_, ⟨_, rfl, .g h⟩, ?_⟩
 (refine sI ?_; try with_reducible exact True.intro)
 (intros; try refine go_st ?_)
 refine go_ret (retQ_v rfl ?_); simp only [push_cast, Nat.reduceBEq]
 rfl
theorem Floor_ok (l : List En) (off : Int) (v : Value) (G : Nat → Option Obj) (hl : SlV G EnE 3 v l) : FnS Try.prog 18 #[v, .int .i64 off] G (.int .i64 (lastE (offP off) l)) := by
 refine F18.fnS (by simp) (go_of ?_)
 unfold c18
 (intros; try refine go_st ?_); refine go_r 0 0 (by decide) ?_; (refine sJ c18r0.eq_1 ?_; try with_reducible exact True.intro)
 intro b1 hb1
 (intros; try refine go_st ?_)
 refine go_gx gx_blk ?_
 rintro h' ⟨G1, rfl, hg1, f1⟩
 have e1 := f1 0 _ rfl
 rw [add_off] at e1
 (intros; try refine go_st ?_); refine go_r 5 8 (by decide) ?_; (refine sJ c18r1.eq_1 ?_; try with_reducible exact True.intro)
 have hlast := last_ok l (offP off) 38 #[.pointer (some ⟨b1, 0, none⟩)] v G1 (hl.le hg1 fun _ _ h => h) fun G' hg e => Floor1_ok e off b1 G' (cellG_le hg e1)
 refine (hlast _ _).mono ?_; rintro _ _ ⟨rfl, rfl⟩; (refine sI ?_; try with_reducible exact True.intro)
 (intros; try refine go_st ?_)
 refine go_ret (retQ_v rfl ?_); simp only [push_cast, Nat.reduceBEq]
theorem When_ok (l : List En) (stamp : Int) (v : Value) (G : Nat → Option Obj) (hl : SlV G EnE 3 v l) : FnS Try.prog 20 #[v, .int .i64 stamp] G (.int .i64 (lastE (stP stamp) l)) := by
 refine F20.fnS (by simp) (go_of ?_)
 unfold c20
 (intros; try refine go_st ?_); refine go_r 0 0 (by decide) ?_; (refine sJ c20r0.eq_1 ?_; try with_reducible exact True.intro)
 intro b1 hb1
 (intros; try refine go_st ?_)
 refine go_gx gx_blk ?_
 rintro h' ⟨G1, rfl, hg1, f1⟩
 have e1 := f1 0 _ rfl
 rw [add_off] at e1
 (intros; try refine go_st ?_); refine go_r 5 8 (by decide) ?_; (refine sJ c20r1.eq_1 ?_; try with_reducible exact True.intro)
 have hlast := last_ok l (stP stamp) 39 #[.pointer (some ⟨b1, 0, none⟩)] v G1 (hl.le hg1 fun _ _ h => h) fun G' hg e => When1_ok e stamp b1 G' (cellG_le hg e1)
 refine (hlast _ _).mono ?_; rintro _ _ ⟨rfl, rfl⟩; (refine sI ?_; try with_reducible exact True.intro)
 (intros; try refine go_st ?_)
 refine go_ret (retQ_v rfl ?_); simp only [push_cast, Nat.reduceBEq]
theorem F13 : Fun Try.prog 13 43 v13 c13 o13 := Fun.mk' Try.func13 Try.ntmps13 (by kernel_rfl) (by kernel_rfl) s13 q13
theorem F16 : Fun Try.prog 16 41 v16 c16 o16 := Fun.mk' Try.func16 Try.ntmps16 (by kernel_rfl) (by kernel_rfl) s16 q16
theorem eqf_E (t : Bool) (x y : En) : eqfV t [0, 0, 0] (.agg #[Value.int .i64 x.off, Value.int .i64 x.pos, Value.int .i64 x.stamp]) (.agg #[Value.int .i64 y.off, Value.int .i64 y.pos, Value.int .i64 y.stamp]) = some (.bool (if t then !decide (x = y) else decide (x = y))) := by
 have : decide (x = y) = (decide (x.off = y.off) && (decide (x.pos = y.pos) && decide (x.stamp = y.stamp))) := by
   rw [Bool.eq_iff_iff]
   cases x; cases y
   simp
 simp [eqfV, eqC, this]
theorem EA_size {bs : List Batch} (G : Nat → Option Obj) (x : Nat) (args : Array Value) (h : EA bs G x args) : args.size = [28, 29].length := by
 obtain ⟨y, _, _, _, rfl⟩ := h
 rfl
theorem all_pos {s : Sg} (h : rightB s = true) (k : Nat) : (allB ((scanB s).take k)).length ≤ 4096 ∧ (allB (scanB s)).length ≤ 4096 := by
 have h1 := allB_take_le (scanB s) k
 have h2 := rightB_iff.1 h
 have h3 := right_is h
 rw [← h3] at h1 ⊢
 omega
theorem allE_drop (s : Sg) : (allE s).drop (scanB s).length = [] := by rw [← allE_len]; exact List.drop_length
def MakeR (s : Sg) (every : Int) (L' : List Kx.Item) (r : Value) : Prop := ∃ u zc, r = .tuple #[u, .int .i64 (makeS s every).2] ∧ Cells EnE 3 (makeS s every).1 zc ∧ L' = [.row u 53 3 (makeS s every).1.length zc]
theorem Make_ok (s : Sg) (every : Int) (cs : List Value) (G : Nat → Option Obj) (hs : SE G s cs) : FnO Try.prog 13 #[.agg cs.toArray, .int .i64 every] G [] (fun _ L' r => MakeR s every L' r) := by
 have hs0 := hs
 obtain ⟨A, c, rfl, hl, hi⟩ := hs
 refine F13.fnO (by simp) noRegs_nil (go_of ?_)
 unfold c13
 unfold cellS at hs0 ⊢
 (intros; try refine go_st ?_); refine go_r 0 0 (by decide) ?_; (refine sJ c13r0.eq_1 ?_; try with_reducible exact True.intro)
 intro b2 hb2 b3 hb3
 (intros; try refine go_st ?_)
 refine go_gx (gx_blk_at [_] _) ?_
 rintro h' ⟨G1, rfl, hg1, f2⟩
 refine go_gx gx_blk ?_
 rintro h' ⟨G2, rfl, hg2, f3⟩
 have e3 := f3 0 _ rfl
 rw [add_off] at e3
 (intros; try refine go_st ?_); refine go_r 11 16 (by decide) ?_; (refine sJ c13r1.eq_1 ?_; try with_reducible exact True.intro)
 refine ⟨_, ⟨_, [.int .i64 s.base, .slice A s.bytes.length c], rfl, rfl, rfl, fun j u hu => .g (cellG_le hg2 (f2 j u hu))⟩, ?_⟩
 (refine sI ?_; try with_reducible exact True.intro)
 refine (right_ok s _ G2 (SE.le (hg1.trans hg2) hs0) _ _).mono ?_
 rintro r h' ⟨G3, L', rfl, hg3, u, bs, zc, rfl, hbs, hzc, rfl⟩
 (refine sI ?_; try with_reducible exact True.intro)
 have hbad : makeS s every = ([], 1) → ∀ (fr : List Td) (e : Env), go none Try.prog 43 v13.1 v13.2 (retQ o13 fun v h => MakeR s every h.L v) (Td.s ((SC.reg false c13r3).seq .ret) :: fr) e ⟨G3, [.row u 38 10 bs.length zc], []⟩ := fun hn fr e => by
   (intros; try refine go_st ?_); refine go_r 0 0 (by decide) ?_; (refine sJ c13r3.eq_1 ?_; try with_reducible exact True.intro)
   (intros; try refine go_st ?_)
   refine go_ghost (ghost_nil none 53 3) ?_
   refine go_ret (retQ_o _ rfl (.cons_cons _ (List.nil_sublist _)) (noRegs_row noRegs_nil) ?_)
   exact ⟨_, [], by rw [hn]; rfl, by rw [hn]; exact .nil, by rw [hn]; rfl⟩
 have e3' := cellG_le hg3 e3
 (intros; try refine go_st ?_); refine go_r 16 25 (by decide) ?_; (refine sJ c13r2.eq_1 ?_; try with_reducible exact True.intro)
 refine gd (fun k1 => ?_) (fun k1 => ?_)
 · (refine sI ?_; try with_reducible exact True.intro)
   (intros; try refine go_st ?_); refine go_c ?_; (refine sI ?_; try with_reducible exact True.intro)
   exact hbad (by rw [makeS, if_neg fun h => by rw [h.1] at k1; cases k1]) _ _
 have k1 : rightB s = true := by simpa using k1
 (refine sI ?_; try with_reducible exact True.intro)
 refine ⟨_, ⟨_, rfl, .g e3'⟩, ?_⟩
 (refine sI ?_; try with_reducible exact True.intro)
 refine gd (fun k2 => ?_) (fun k2 => ?_)
 · (refine sI ?_; try with_reducible exact True.intro)
   (intros; try refine go_st ?_); refine go_c ?_; (refine sI ?_; try with_reducible exact True.intro)
   have k2 := of_decide_eq_true k2
   exact hbad (by rw [makeS, if_neg fun h => by omega]) _ _
 have k2 := of_decide_eq_false k2
 (refine sI ?_; try with_reducible exact True.intro)
 refine ⟨_, ⟨_, rfl, .g e3'⟩, ?_⟩
 (refine sI ?_; try with_reducible exact True.intro)
 (intros; try refine go_st ?_); refine go_c ?_; (refine sI ?_; try with_reducible exact True.intro)
 refine gb (fun k3 => ?_) (fun k3 => ?_)
 · have k3 := of_decide_eq_true k3
   exact hbad (by rw [makeS, if_neg fun h => by omega]) _ _
 have k3 := of_decide_eq_false k3
 clear hbad
 have hmk : makeS s every = (mkE every 0 (allE s), 0) := by rw [makeS, if_pos ⟨k1, by omega, by omega⟩]
 have hR : ∀ u zc, Cells EnE 3 (mkE every 0 (allE s)) zc → MakeR s every [.row u 53 3 (mkE every 0 (allE s)).length zc] (.tuple #[u, .int .i64 0]) := fun u zc h => ⟨u, zc, by rw [hmk], by rw [hmk]; exact h, by rw [hmk]⟩
 have hbs := hbs k1
 subst hbs
 obtain ⟨rr, hsc⟩ := scan_spec s
 have hps := all_pos k1
 have hsl := hsc.len
 (repeat first | (with_reducible intro _) | refine go_skip ?_ | refine go_b ?_)
 (intros; try refine go_st ?_); refine go_r 0 0 (by decide) ?_; (refine sJ c13r4.eq_1 ?_; try with_reducible exact True.intro)
 intro b8 hb8
 (intros; try refine go_st ?_); refine go_r 0 0 (by decide) ?_; (refine sJ c13r5.eq_1 ?_; try with_reducible exact True.intro)
 intro b9 hb9
 refine stX_blk [] [_, _] rfl (by simp) ⟨rfl, rfl⟩ ?_
 (refine sI ?_; try with_reducible exact True.intro)
 (intros; try refine go_st ?_)
 refine go_gx (gx_slv_at [_, _] _ (by decide) hzc) ?_
 rintro h' ⟨G4, rfl, hg4, hv⟩
 have e4 := cellG_le hg4 e3'
 (intros; try refine go_st ?_); refine go_r 26 27 (by decide) ?_; (refine sJ c13r6.eq_1 ?_; try with_reducible exact True.intro)
 refine (entries_ok (scanB s) u G4 (hv.le (.refl _) fun _ _ h => BE.le hg4 h) hsc.ok (by have := (hps 0).2; omega) _ _).mono ?_
 rintro r h' ⟨G5, rfl, hg5, b, rfl, hit⟩
 have e5 := cellG_le hg5 e4
 (refine sI ?_; try with_reducible exact True.intro)
 (intros; try refine go_st ?_)
 refine go_ghost (ghost_nil none 53 3) ?_
 refine go_rf (α := Nat) (fun k G' L' => ∃ u zc out nx, L' = [.row u 53 3 (out : List En).length zc, .blk b9 [.int .i64 nx], .blk b8 [u]] ∧ Cells EnE 3 out zc ∧ (out.length ≤ k ∧ out ++ mkE every nx ((allE s).drop k) = mkE every 0 (allE s))) (fun _ _ _ _ => False) (eE) F52.enters (noRegs_row (noRegs_blk (noRegs_blk noRegs_nil)))
   (fun i G G' L hg h => h) hit EA_size ⟨_, [], [], 0, rfl, .nil, Nat.zero_le _, rfl⟩ ?_ ?_ ?_
 · rintro yl k i args G' L' hki hgl ⟨x, cs, hx, hbe, rfl⟩ ⟨u, zc, out, nx, rfl, hzc, hle, hout⟩ _
   obtain ⟨rfl, hkl⟩ := range_at hki
   have hxe := allE_get rfl hx
   have hst := mkE_at (every := every) (nx := nx) hxe
   rw [hst] at hout
   have hp := (hps i).1
   have hp0 := (hps 0).2
   have e5' := cellG_le hgl e5
   (refine sI ?_; try with_reducible exact True.intro)
   (intros; try refine go_st ?_); refine go_r 0 0 (by decide) ?_; (refine sJ c13r7.eq_1 ?_; try with_reducible exact True.intro)
   intro bb
   refine go_nil (rnd_a ?_)
   (intros; try refine go_st ?_); refine go_r 31 33 (by decide) ?_; (refine sJ c13r8.eq_1 ?_; try with_reducible exact True.intro)
   refine ⟨_, ldN_blk (.tail _ (.tail _ (.head _))) rfl, ?_⟩
   (refine sI ?_; try with_reducible exact True.intro)
   (intros; try refine go_st ?_); refine go_c ?_; (refine sI ?_; try with_reducible exact True.intro)
   refine gb (fun k5 => ?_) (fun k5 => ?_)
   · have k5 := of_decide_eq_true k5
     rw [if_pos (show nx ≤ (entAt (scanB s) i x).pos from k5)] at hout
     have hw : IntKind.i64.wrap ((((allB ((scanB s).take i)).length : Nat) : Int) + every) = (((allB ((scanB s).take i)).length : Nat) : Int) + every := by rw [w64_id] <;> omega
     (intros; try refine go_st ?_); refine go_r 34 38 (by decide) ?_; (refine sJ c13r9.eq_1 ?_; try with_reducible exact True.intro)
     refine ⟨_, ldN_blk (.tail _ (.tail _ (.tail _ (.head _)))) rfl, ?_⟩
     (refine sI ?_; try with_reducible exact True.intro)
     intro bk hbk
     refine app1 (L1 := [_]) (L2 := [_, _]) (E := EnE) (x := entAt (scanB s) i x) rfl rfl rfl (by simp [Value.oneCell']) hzc (by omega) (by omega) fun A' c' zc' hzc' => ?_
     (refine sI ?_; try with_reducible exact True.intro)
     refine stX_blk [_, _, _, _] [] rfl (by simp) ⟨rfl, rfl⟩ ?_
     (refine sI ?_; try with_reducible exact True.intro)
     (intros; try refine go_st ?_); refine go_r 39 42 (by decide) ?_; (refine sJ c13r10.eq_1 ?_; try with_reducible exact True.intro)
     refine ⟨_, ⟨_, rfl, .g e5'⟩, ?_⟩
     (refine sJ @hw ?_; try with_reducible exact True.intro)
     refine stX_blk [_, _, _] [_] rfl (by simp) ⟨rfl, rfl⟩ ?_
     (refine sI ?_; try with_reducible exact True.intro)
     (intros; try refine go_st ?_)
     refine go_nil (rnd_n _ (.cons _ (.cons _ (List.Sublist.refl _))) (noRegs_row (noRegs_blk (noRegs_blk noRegs_nil))) ⟨_, zc', out ++ [entAt (scanB s) i x], _, rfl, hzc', by simp; omega, ?_⟩)
     rw [List.append_assoc]
     exact hout
   · have k5 := of_decide_eq_false k5
     rw [if_neg (show ¬ nx ≤ (entAt (scanB s) i x).pos from k5)] at hout
     (repeat first | (with_reducible intro _) | refine go_skip ?_ | refine go_b ?_)
     exact go_nil (rnd_n _ (.cons _ (List.Sublist.refl _)) (noRegs_row (noRegs_blk (noRegs_blk noRegs_nil))) ⟨_, zc, out, nx, rfl, hzc, by omega, hout⟩)
 · rintro G' L' dd hgl ⟨u, zc, out, nx, rfl, hzc, hle, hout⟩ _
   rw [List.length_range, allE_drop, mkE, List.append_nil] at hout
   subst hout
   (intros; try refine go_st ?_); refine go_r 42 43 (by decide) ?_; (refine sJ c13r11.eq_1 ?_; try with_reducible exact True.intro)
   refine ⟨_, ldN_blk (.tail _ (.tail _ (.head _))) rfl, ?_⟩
   (refine sI ?_; try with_reducible exact True.intro)
   (intros; try refine go_st ?_)
   exact go_ret (retQ_o _ rfl (.cons_cons _ (List.nil_sublist _)) (noRegs_row noRegs_nil) (hR u zc hzc))
 · rintro ex i G' L' d _ _ h
   exact h.elim
theorem CheckI_ok (s : Sg) (l : List En) (cs : List Value) (v : Value) (G : Nat → Option Obj) (hs : SE G s cs) (hv : SlV G EnE 3 v l) : FnS Try.prog 16 #[.agg cs.toArray, v] G (.int .i64 (chkI s l)) := by
 have hs0 := hs
 obtain ⟨A, c, rfl, hl, hi⟩ := hs
 obtain ⟨B, d, rfl, hd, hm, hB⟩ := hv
 refine F16.fnS (by simp) (go_of ?_)
 unfold c16
 unfold cellS at hs0 ⊢
 (intros; try refine go_st ?_); refine go_r 0 0 (by decide) ?_; (refine sJ c16r0.eq_1 ?_; try with_reducible exact True.intro)
 intro b2 hb2 b4 hb4
 (intros; try refine go_st ?_)
 refine go_gx (gx_blk_at [_] _) ?_
 rintro h' ⟨G1, rfl, hg1, f2⟩
 (intros; try refine go_st ?_); refine go_r 9 14 (by decide) ?_; (refine sJ c16r1.eq_1 ?_; try with_reducible exact True.intro)
 refine ⟨_, ⟨_, [.int .i64 s.base, .slice A s.bytes.length c], rfl, rfl, rfl, fun j u hu => .g (f2 j u hu)⟩, ?_⟩
 (refine sI ?_; try with_reducible exact True.intro)
 refine (right_ok s _ G1 (SE.le hg1 hs0) _ _).mono ?_
 rintro r h' ⟨G3, L', rfl, hg3, u, bs, zc, rfl, hbs, hzc, rfl⟩
 (refine sI ?_; try with_reducible exact True.intro)
 have fin : ∀ (m : Int) (G6 : Nat → Option Obj) (L : List Kx.Item) (D : List Nat) (e : Env), m = chkI s l → e 4 = .pointer (some ⟨b4, 0, none⟩) → Kx.getB b4 L = some [.int .i64 m] → retQ o16 (fun v (_ : H) => v = .int .i64 (chkI s l)) .ret e ⟨G6, L, D⟩ := fun m G6 L D e hm e4 hL => by
   subst hm
   exact retQ_v (resV_c (b := b4) (v := .int .i64 (chkI s l)) e4 hL) rfl
 (intros; try refine go_st ?_); refine go_r 14 15 (by decide) ?_; (refine sJ c16r2.eq_1 ?_; try with_reducible exact True.intro)
 (intros; try refine go_st ?_); refine go_c ?_; (refine sI ?_; try with_reducible exact True.intro)
 refine gb (fun k1 => ?_) (fun k1 => ?_)
 · (intros; try refine go_st ?_); refine go_r 0 0 (by decide) ?_; (refine sJ c16r3.eq_1 ?_; try with_reducible exact True.intro)
   refine stX_blk [_] [] rfl (by simp) ⟨rfl, rfl⟩ ?_
   (refine sI ?_; try with_reducible exact True.intro)
   (intros; try refine go_st ?_)
   refine go_ret (fin 1 _ _ _ _ (by rw [chkI, if_neg fun h => by rw [h.1] at k1; cases k1]) ?_ (by simp [Kx.getB]))
   (refine sI ?_; try with_reducible exact True.intro)
 have k1 : rightB s = true := by simpa using k1
 have hbs := hbs k1
 subst hbs
 obtain ⟨rr, hsc⟩ := scan_spec s
 have hps := (all_pos k1 0).2
 have hchk : chkI s l = if chkE l (allE s) = true then 0 else 1 := by
   unfold chkI
   simp [k1]
 (repeat first | (with_reducible intro _) | refine go_skip ?_ | refine go_b ?_)
 (intros; try refine go_st ?_); refine go_r 16 17 (by decide) ?_; (refine sJ c16r4.eq_1 ?_; try with_reducible exact True.intro)
 intro b7 hb7
 refine stX_blk [] [_, _] rfl (by simp) ⟨rfl, rfl⟩ ?_
 (refine sI ?_; try with_reducible exact True.intro)
 (intros; try refine go_st ?_)
 refine go_gx (gx_slv_at [_] _ (by decide) hzc) ?_
 rintro h' ⟨G4, rfl, hg4, hv⟩
 have hgg : Gle G G4 := (hg1.trans hg3).trans hg4
 (intros; try refine go_st ?_); refine go_r 17 18 (by decide) ?_; (refine sJ c16r5.eq_1 ?_; try with_reducible exact True.intro)
 refine (entries_ok (scanB s) u G4 (hv.le (.refl _) fun _ _ h => BE.le hg4 h) hsc.ok (by omega) _ _).mono ?_
 rintro r h' ⟨G5, rfl, hg5, b, rfl, hit⟩
 (refine sI ?_; try with_reducible exact True.intro)
 (intros; try refine go_st ?_)
 refine go_gx (gx_ne (List.Sublist.refl _)) ?_
 rintro h' ⟨rfl, hne⟩
 refine go_rf (α := Nat) (fun k G' L' => ∃ t B cc, L' = [.blk b7 [.slice B (t : List En).length cc], .blk b4 [.int .i64 0]] ∧ (t.length ≤ cc ∧ cc ≤ maxLen ∧ SlA G' EnE 3 B t) ∧ ((k = 0 ∧ t = l) ∨ (0 < k ∧ chkE l (allE s) = subB t ((allE s).drop k)))) (fun ex k G' L' => ex = .ret ∧ (∃ v, L' = [.blk b7 [v], .blk b4 [.int .i64 1]]) ∧ chkE l (allE s) = false) (eE) F52.enters (noRegs_blk (noRegs_blk noRegs_nil))
   (fun i G G' L hg ⟨t, B, cc, h1, ⟨h2, h3, h4⟩, h5⟩ => ⟨t, B, cc, h1, ⟨h2, h3, h4.le hg fun _ _ h => h⟩, h5⟩) hit EA_size ⟨l, B, d, rfl, ⟨hd, hm, hB.le (hgg.trans hg5) fun _ _ h => h⟩, .inl ⟨rfl, rfl⟩⟩ ?_ ?_ ?_
 · rintro yl k i args G' L' hki hgl ⟨x, cs, hx, hbe, rfl⟩ ⟨t, B2, cc, rfl, ⟨h1, h2, h3⟩, h4⟩ _
   obtain ⟨rfl, hkl⟩ := range_at hki
   have hxe := allE_get rfl hx
   have hsub := subB_at (l := t) (n := 0) hxe
   have hck := chkE_at (l := l) (es := allE s) (e := entAt (scanB s) i x)
   have hpz := entAt_pos hsc hx
   rw [List.drop_zero] at hsub
   -- the entry ahead is this one, or none
   (refine sI ?_; try with_reducible exact True.intro)
   (intros; try refine go_st ?_); refine go_r 0 0 (by decide) ?_; (refine sJ c16r6.eq_1 ?_; try with_reducible exact True.intro)
   intro bb
   refine go_nil (rnd_a ?_)
   (repeat (with_reducible intro _)); try refine go_seq ?_
   refine go_blk ?_
   refine go_blk ?_
   (repeat (with_reducible intro _)); try refine go_seq ?_
   refine go_cut (fun e h => e 21 = .bool (decide (t[0]? = some (entAt (scanB s) i x))) ∧ e 4 = .pointer (some ⟨b4, 0, none⟩) ∧ e 7 = .pointer (some ⟨b7, 0, none⟩) ∧ h = ⟨G', [.reg 8 [.int .i64 x.base, .int .i64 (((allB ((scanB s).take i)).length : Nat) : Int), .int .i64 (((scanB s).take (i + 1)).foldl stM (-1))], .blk b7 [.slice B2 t.length cc], .blk b4 [.int .i64 0]], []⟩) ?_ ?_
   · cases ht : t[0]? with
     | none =>
       have hz : decide ((0 : Int) < (t.length : Int)) = false := decide_eq_false (by have := List.getElem?_eq_none_iff.1 ht; omega)
       (intros; try refine go_st ?_); refine go_q 22 32 (by decide) ?_; (refine sJ c16r7.eq_1 ?_; try with_reducible exact True.intro)
       refine ⟨_, ldN_blk (.tail _ (.head _)) rfl, ?_⟩
       have hd0 : decide ((none : Option En) = some (entAt (scanB s) i x)) = false := by simp
       (refine sJ @hz ?_; try with_reducible exact True.intro)
       (intros; try refine go_st ?_)
       exact go_l ⟨(eJ @hd0), eE, eE, rfl⟩
     | some y =>
       have hz : decide ((0 : Int) < (t.length : Int)) = true := decide_eq_true (by have := (List.getElem?_eq_some_iff.1 ht).1; omega)
       (intros; try refine go_st ?_); refine go_q 22 32 (by decide) ?_; (refine sJ c16r7.eq_1 ?_; try with_reducible exact True.intro)
       refine ⟨_, ldN_blk (.tail _ (.head _)) rfl, ?_⟩
       (refine sJ @hz ?_; try with_reducible exact True.intro)
       refine ⟨_, ldN_blk (.tail _ (.head _)) rfl, ?_⟩
       (refine sI ?_; try with_reducible exact True.intro)
       refine h3.y_ld ht rfl rfl ?_
       rintro a1 ha1 cs hcs
       cases (show cs = cellE y from hcs)
       unfold cellE
       have hq : (decide (y.off = x.base) && (decide (y.pos = (((allB ((scanB s).take i)).length : Nat) : Int)) && decide (y.stamp = ((scanB s).take (i + 1)).foldl stM (-1)))) = decide (some y = some (entAt (scanB s) i x)) := by
         rw [Bool.eq_iff_iff]
         cases y
         simp [entAt]
       (refine sI ?_; try with_reducible exact True.intro)
       (intros; try refine go_st ?_)
       exact go_l ⟨(eJ @hq), eE, eE, rfl⟩
   rintro e h ⟨e21, e4, e7, rfl⟩
   refine go_keep [4, 7, 21] ?_
   (refine sJ3 @e4 @e7 @e21 ?_; try with_reducible exact True.intro)
   (intros; try refine go_st ?_); refine go_c ?_; (refine sI ?_; try with_reducible exact True.intro)
   refine gb (fun k3 => ?_) (fun k3 => ?_)
   · have k3 := of_decide_eq_true k3
     have htl := (List.getElem?_eq_some_iff.1 k3).1
     (intros; try refine go_st ?_); refine go_r 32 34 (by decide) ?_; (refine sJ c16r8.eq_1 ?_; try with_reducible exact True.intro)
     refine ⟨_, ldN_blk (.tail _ (.head _)) rfl, ?_⟩
     rw [if_pos k3] at hsub
     have hcut := h3.cut (l := 1) (n := t.length) (B := if cc = 1 then B2 else B2.map (·.add (1 * 3))) (Nat.le_refl _) fun hlt => by rw [if_neg (by omega)]
     rw [List.take_length] at hcut
     have hdl : (t.drop 1).length = t.length - 1 := List.length_drop
     (refine sJ @slY_i ?_; try with_reducible exact True.intro)
     refine ⟨by omega, ?_⟩
     (refine sJ @Int.toNat_one ?_; try with_reducible exact True.intro)
     refine stX_blk [_] [_] rfl (by simp) ⟨rfl, rfl⟩ ?_
     (refine sI ?_; try with_reducible exact True.intro)
     (repeat first | (with_reducible intro _) | refine go_skip ?_ | refine go_b ?_)
     refine go_nil (rnd_n _ (.cons _ (List.Sublist.refl _)) (noRegs_blk (noRegs_blk noRegs_nil)) ⟨t.drop 1, _, cc - 1, by rw [hdl], ⟨by omega, by omega, hcut⟩, .inr ⟨by omega, ?_⟩⟩)
     rcases h4 with ⟨rfl, rfl⟩ | ⟨h4, h5⟩
     · rw [hck hxe, if_pos k3]
     · rw [h5, hsub]
   · have k3 := of_decide_eq_false k3
     rw [if_neg k3] at hsub
     (intros; try refine go_st ?_); refine go_r 36 38 (by decide) ?_; (refine sJ c16r9.eq_1 ?_; try with_reducible exact True.intro)
     (intros; try refine go_st ?_); refine go_c ?_; (refine sI ?_; try with_reducible exact True.intro)
     refine gb (fun k6 => ?_) (fun k6 => ?_)
     · have k6 := hpz.1 (of_decide_eq_true k6)
       subst k6
       have h4 : t = l := by
         rcases h4 with h4 | h4
         · exact h4.2
         · omega
       subst h4
       have h5 : chkE t (allE s) = false := by rw [hck hxe, if_neg k3]
       (intros; try refine go_st ?_); refine go_r 0 0 (by decide) ?_; (refine sJ c16r10.eq_1 ?_; try with_reducible exact True.intro)
       refine stX_blk [_, _] [] rfl (by simp) ⟨rfl, rfl⟩ ?_
       (refine sI ?_; try with_reducible exact True.intro)
       (intros; try refine go_st ?_)
       exact go_ret (rnd_r _ (.cons _ (List.Sublist.refl _)) (noRegs_blk (noRegs_blk noRegs_nil)) ⟨rfl, ⟨_, rfl⟩, h5⟩)
     · have k6 : ¬ i = 0 := fun h => absurd (hpz.2 h) (of_decide_eq_false k6)
       (repeat first | (with_reducible intro _) | refine go_skip ?_ | refine go_b ?_)
       refine go_nil (rnd_n _ (.cons _ (List.Sublist.refl _)) (noRegs_blk (noRegs_blk noRegs_nil)) ⟨t, _, cc, rfl, ⟨h1, h2, h3⟩, .inr ⟨by omega, ?_⟩⟩)
       rcases h4 with ⟨h4, -⟩ | ⟨h4, h5⟩
       · omega
       · rw [h5, hsub]
 · rintro G' L' dd hgl ⟨t, B2, cc, rfl, ⟨h1, h2, h3⟩, h4⟩ _
   rw [List.length_range, allE_drop] at h4
   have h5 : chkI s l = if 0 < t.length then 1 else 0 := by
     rw [hchk]
     have h6 : chkE l (allE s) = t.isEmpty := by
       rcases h4 with ⟨h4, rfl⟩ | ⟨h4, h5⟩
       · have : allE s = [] := List.eq_nil_of_length_eq_zero (by rw [allE_len]; exact h4)
         rw [this]
         cases t <;> rfl
       · rw [h5]
         cases t <;> rfl
     rw [h6]
     cases t <;> simp
   (intros; try refine go_st ?_); refine go_r 38 40 (by decide) ?_; (refine sJ c16r11.eq_1 ?_; try with_reducible exact True.intro)
   refine ⟨_, ldN_blk (.head _) rfl, ?_⟩
   (refine sI ?_; try with_reducible exact True.intro)
   (intros; try refine go_st ?_); refine go_c ?_; (refine sI ?_; try with_reducible exact True.intro)
   refine gb (fun k6 => ?_) (fun k6 => ?_)
   · have k6 := of_decide_eq_true k6
     rw [if_pos (by omega)] at h5
     (intros; try refine go_st ?_); refine go_r 0 0 (by decide) ?_; (refine sJ c16r12.eq_1 ?_; try with_reducible exact True.intro)
     refine stX_blk [_] [] rfl (by simp) ⟨rfl, rfl⟩ ?_
     (refine sI ?_; try with_reducible exact True.intro)
     (intros; try refine go_st ?_)
     refine go_ret (fin 1 _ _ _ _ h5.symm ?_ (by simp [Kx.getB, hne]))
     (refine sI ?_; try with_reducible exact True.intro)
   · have k6 := of_decide_eq_false k6
     rw [if_neg (by omega)] at h5
     (repeat first | (with_reducible intro _) | refine go_skip ?_ | refine go_b ?_)
     (intros; try refine go_st ?_); refine go_r 0 0 (by decide) ?_; (refine sJ c16r13.eq_1 ?_; try with_reducible exact True.intro)
     refine stX_blk [_] [] rfl (by simp) ⟨rfl, rfl⟩ ?_
     (refine sI ?_; try with_reducible exact True.intro)
     (intros; try refine go_st ?_)
     refine go_ret (fin 0 _ _ _ _ h5.symm ?_ (by simp [Kx.getB, hne]))
     (refine sI ?_; try with_reducible exact True.intro)
 · rintro ex i G' L' dd _ _ ⟨rfl, ⟨v, rfl⟩, h5⟩ _
   refine fin 1 _ _ _ _ (by rw [hchk, h5]; rfl) ?_ ?_
   · (refine sI ?_; try with_reducible exact True.intro)
   · simp [Kx.getB, hne]
theorem F40 : Fun Try.prog 40 6 v40 c40 o40 := Fun.mk' Try.func40 Try.ntmps40 (by kernel_rfl) (by kernel_rfl) s40 q40
theorem F55 : Fun Try.prog 55 27 v55 c55 o55 := Fun.mk' Try.func55 Try.ntmps55 (by kernel_rfl) (by kernel_rfl) s55 q55
theorem F22 : Fun Try.prog 22 29 v22 c22 o22 := Fun.mk' Try.func22 Try.ntmps22 (by kernel_rfl) (by kernel_rfl) s22 q22
theorem F24 : Fun Try.prog 24 37 v24 c24 o24 := Fun.mk' Try.func24 Try.ntmps24 (by kernel_rfl) (by kernel_rfl) s24 q24
def FA (bs : List Batch) (j : Nat) (G : Nat → Option Obj) (k : Nat) (args : Array Value) : Prop := ∃ x cs, bs[j + k]? = some x ∧ BE G x cs ∧ args = #[.agg cs.toArray]
def mu5 (n : Nat) : Value → Nat
 | .int _ p => n - p.toNat
 | _ => n + 1
theorem from1_iter (s : Sg) (A : Option Addr) (c b2 b3 j : Nat) (G0 : Nat → Option Obj) (hl : SB G0 (.slice A s.bytes.length c) s.bytes) (hr : rightB s = true) (hj : j ≤ (scanB s).length) (h1 : cellG G0 ⟨b2, 1, none⟩ = some (.slice A s.bytes.length c)) :
   IterC Try.prog 55 #[.pointer (some ⟨b3, 0, none⟩), .pointer (some ⟨b2, 0, none⟩)] (List.range ((scanB s).length - j)) (FA (scanB s) j) G0 [.blk b3 [.int .i64 (((allB ((scanB s).take j)).length : Nat) : Int)]] (fun C => ∃ p, C = [.blk b3 [.int .i64 p]]) := by
 obtain ⟨rr, hsc⟩ := scan_spec s
 have hps := all_pos hr
 have hri := right_is hr
 have hb : s.bytes.length ≤ 1000000 := by have := (rightB_iff.1 hr).2.1; omega
 generalize scanB s = bs at hsc hps hri hj
 intro yl I Ix G L hG hn hI hIx hmo hi0 hy L2 D
 have hargs : (#[.func (.yield yl) #[] #[]] ++ #[.pointer (some ⟨b3, 0, none⟩), .pointer (some ⟨b2, 0, none⟩)] : Array Value) = #[.func (.yield yl) #[] #[], .pointer (some ⟨b3, 0, none⟩), .pointer (some ⟨b2, 0, none⟩)] := rfl
 have hnL : ∀ {L : List Kx.Item} {p : Int}, NoRegs L → NoRegs (L ++ [.blk b3 [.int .i64 p]]) := fun h s cs hm => by
   rcases List.mem_append.1 hm with hm | hm
   · exact h s cs hm
   · simp at hm
 rw [hargs, List.length_range, ← List.append_assoc]
 refine (F55.calls (R := fun _ h => Gle G h.G ∧ ∃ L' p, h.L = L' ++ [.blk b3 [.int .i64 p]] ∧ NoRegs L' ∧ (I (bs.length - j) h.G L' ∨ ∃ i, i < bs.length - j ∧ Ix i h.G L')) (by simp) (hnL hn) (go_of ?_) L2 D).mono ?_
 rotate_left
 · rintro v h' ⟨G', L', rfl, -, hgg, L1, p, rfl, hn', hr⟩
   exact ⟨G', L1, [.blk b3 [.int .i64 p]], by simp, ⟨p, rfl⟩, noRegs_blk noRegs_nil, hgg, hn', hr⟩
 have e1 := cellG_le hG h1
 have hlG := SB.le hl hG
 unfold c55
 refine go_scp (go_seq (go_lab (go_blk (go_loop (fun e h => ∃ (t : Nat) (G' : Nat → Option Obj) (L' Lh : List Kx.Item), (t ≤ bs.length - j ∧ Gle G G' ∧ NoRegs L' ∧ I t G' L') ∧ e 0 = .func (.yield yl) #[] #[] ∧ e 1 = .pointer (some ⟨b3, 0, none⟩) ∧ e 2 = .pointer (some ⟨b2, 0, none⟩) ∧ h = ⟨G', Lh, []⟩ ∧ (L' ++ [Kx.Item.blk b3 [.int .i64 (((allB (bs.take (j + t))).length : Nat) : Int)]]).Sublist Lh ∧ (e 5 = undef ∨ e 5 = .int .i64 (((allB (bs.take (j + t))).length : Nat) : Int))) (fun e h => mu5 s.bytes.length (e 5)) ?_ ?_))))
 · exact ⟨0, G, L, _, ⟨Nat.zero_le _, .refl G, hn, hi0⟩, eE, eE, eE, rfl, List.Sublist.refl _, .inl (by rfl)⟩
 rintro e h ⟨t, G', L', Lh, ⟨ht, hgg, hn', hI'⟩, e0, e1', e2, rfl, hsub, e5⟩
 have hmu : ∀ p : Nat, (allB (bs.take (j + t))).length < p → p ≤ s.bytes.length → mu5 s.bytes.length (.int .i64 (p : Int)) < mu5 s.bytes.length (e 5) := fun p h1 h2 => by
   rcases e5 with e5 | e5 <;> rw [e5]
   · show s.bytes.length - (p : Int).toNat < s.bytes.length + 1
     omega
   · show s.bytes.length - (p : Int).toNat < s.bytes.length - ((((allB (bs.take (j + t))).length : Nat) : Int)).toNat
     omega
 refine go_keep [0, 1, 2] ?_
 (refine sJ3 @e0 @e1' @e2 ?_; try with_reducible exact True.intro)
 (repeat (with_reducible intro _)); try refine go_seq ?_
 refine go_ghost (ghost_sub hsub) ?_
 have hrm := rmR_no (s := 4) (hnL (p := (((allB (bs.take (j + t))).length : Nat) : Int)) hn')
 have e1g := cellG_le hgg e1
 have hget := BGet_ok s.bytes (((allB (bs.take (j + t))).length : Nat) : Int) _ G' (SB.le hlG hgg) hb
 unfold GetBR at hget
 have htk := (hps (j + t)).1
 (intros; try refine go_st ?_); refine go_r 7 11 (by decide) ?_; (refine sJ c55r0.eq_1 ?_; try with_reducible exact True.intro)
 refine ⟨_, ldN_blk (List.mem_append_right _ (.head _)) rfl, ?_⟩
 (refine sI ?_; try with_reducible exact True.intro)
 refine ⟨_, ⟨_, rfl, .g e1g⟩, ?_⟩
 (refine sI ?_; try with_reducible exact True.intro)
 (intros; try refine go_st ?_); refine go_c ?_; (refine sI ?_; try with_reducible exact True.intro)
 refine gb (fun k1 => ?_) (fun k1 => ?_)
 · have k1 := of_decide_eq_true k1
   have htl : t < bs.length - j := by
     rcases Nat.lt_or_ge t (bs.length - j) with h | h
     · exact h
     · exfalso
       rw [hri, List.take_of_length_le (by omega)] at k1
       omega
   obtain ⟨x, hx⟩ : ∃ x, bs[j + t]? = some x := ⟨bs[j + t], List.getElem?_eq_getElem (by omega)⟩
   obtain ⟨a1, a2, a3, a4⟩ := hsc.at_ hx
   have hle := (hps (j + (t + 1))).1
   have hlt : (allB (bs.take (j + t))).length < (allB (bs.take (j + t + 1))).length := by
     have := bytesB_pos x
     rw [allB_take hx, List.length_append]
     omega
   have hjt : (allB (bs.take (j + (t + 1)))).length = (allB (bs.take (j + t + 1))).length := rfl
   have hle2 : (allB (bs.take (j + t + 1))).length ≤ s.bytes.length := by
     conv => rhs; rw [hri]
     exact allB_take_le _ _
   (repeat first | (with_reducible intro _) | refine go_skip ?_ | refine go_b ?_)
   (intros; try refine go_st ?_); refine go_r 12 20 (by decide) ?_; (refine sJ c55r1.eq_1 ?_; try with_reducible exact True.intro)
   refine ⟨_, ⟨_, rfl, .g e1g⟩, ?_⟩
   (refine sI ?_; try with_reducible exact True.intro)
   refine ⟨_, ldN_blk (List.mem_append_right _ (.head _)) rfl, ?_⟩
   (refine sI ?_; try with_reducible exact True.intro)
   refine (hget _ _).mono ?_
   rintro v h' ⟨G1, rfl, hg1, cs, rfl, hbe⟩
   rw [a1] at hbe ⊢
   dsimp only at hbe ⊢
   have hbe0 := hbe
   obtain ⟨B, d, rfl, -⟩ := hbe
   unfold cellH at hbe0 ⊢
   have hz : decide ((0 : Int) ≠ 0) = false := by decide
   (refine sJ @hrm ?_; try with_reducible exact True.intro)
   (intros; try refine go_st ?_); refine go_r 20 21 (by decide) ?_; (refine sJ2 c55r2.eq_1 @hz ?_; try with_reducible exact True.intro)
   (intros; try refine go_st ?_); refine go_c ?_; (refine sI ?_; try with_reducible exact True.intro)
   (repeat first | (with_reducible intro _) | refine go_skip ?_ | refine go_b ?_)
   (intros; try refine go_st ?_); refine go_r 22 25 (by decide) ?_; (refine sJ c55r3.eq_1 ?_; try with_reducible exact True.intro)
   refine .inr ⟨yl, rfl, ?_⟩
   refine YieldH.ghost (ghost_perm (L' := L' ++ [Kx.Item.blk b3 [.int .i64 (((allB (bs.take (j + t))).length : Nat) : Int)], .reg 4 [.int .i64 x.base, .int .i64 x.last, .int .i64 x.src, .int .i64 x.epoch, .int .i64 x.pid, .int .i64 x.gen, .int .i64 x.seq, .bool x.txn, .int .i64 x.ctl, .slice B x.recs.length d]]) (by simpa using List.perm_append_comm (l₁ := [.reg 4 [.int .i64 x.base, .int .i64 x.last, .int .i64 x.src, .int .i64 x.epoch, .int .i64 x.pid, .int .i64 x.gen, .int .i64 x.seq, .bool x.txn, .int .i64 x.ctl, .slice B x.recs.length d]]) (l₂ := L' ++ [Kx.Item.blk b3 [.int .i64 (((allB (bs.take (j + t))).length : Nat) : Int)]]))) ?_
   refine (hy t t _ G1 L' (List.getElem?_range htl) (hgg.trans hg1) ⟨x, _, hx, hbe0, rfl⟩ (hmo _ _ _ _ hg1 hI') _ []).mono ?_
   rintro v h' ⟨G2, L3, rfl, hg2, hn2, hr⟩
   rcases hr with ⟨rfl, hr⟩ | ⟨rfl, hr⟩
   · (refine sI ?_; try with_reducible exact True.intro)
     (intros; try refine go_st ?_); refine go_c ?_; (refine sI ?_; try with_reducible exact True.intro)
     (repeat first | (with_reducible intro _) | refine go_skip ?_ | refine go_b ?_)
     (intros; try refine go_st ?_); refine go_r 26 27 (by decide) ?_; (refine sJ c55r4.eq_1 ?_; try with_reducible exact True.intro)
     refine stX_blk L3 [_] rfl (by simp) ⟨rfl, rfl⟩ ?_
     (refine sI ?_; try with_reducible exact True.intro)
     (intros; try refine go_st ?_)
     refine go_l ⟨⟨t + 1, G2, L3, _, ⟨by omega, (hgg.trans hg1).trans hg2, hn2, hr⟩, eE, eE, eE, rfl, ?_, .inr ((eJ @hjt))⟩, ?_⟩
     · exact List.Sublist.append (List.Sublist.refl _) (.cons_cons _ (List.nil_sublist _))
     · (refine sI ?_; try with_reducible exact True.intro)
       exact hmu _ hlt hle2
   · (refine sI ?_; try with_reducible exact True.intro)
     (intros; try refine go_st ?_); refine go_c ?_; (refine sI ?_; try with_reducible exact True.intro)
     (intros; try refine go_st ?_)
     exact go_ret (retQ_o (out := []) _ rfl (List.Sublist.append (List.Sublist.refl _) (.cons_cons _ (List.nil_sublist _))) (hnL hn2) ⟨(hgg.trans hg1).trans hg2, L3, _, rfl, hn2, .inr ⟨t, htl, hr⟩⟩)
 · have k1 := of_decide_eq_false k1
   have htl : t = bs.length - j := by
     rcases Nat.lt_or_ge t (bs.length - j) with h | h
     · exfalso
       obtain ⟨x, hx⟩ : ∃ x, bs[j + t]? = some x := ⟨bs[j + t], List.getElem?_eq_getElem (by omega)⟩
       have hlt : (allB (bs.take (j + t))).length < (allB (bs.take (j + t + 1))).length := by
         have := bytesB_pos x
         rw [allB_take hx, List.length_append]
         omega
       have hle2 : (allB (bs.take (j + t + 1))).length ≤ s.bytes.length := by
         conv => rhs; rw [hri]
         exact allB_take_le _ _
       omega
     · omega
   subst htl
   refine go_exit ?_
   (refine sI ?_; try with_reducible exact True.intro)
   refine go_n (go_nil ?_)
   exact ⟨[], rfl, _, ghost_sub (List.Sublist.refl _), hnL hn', hgg, L', _, rfl, hn', .inl hI'⟩
theorem fromI_ok (s : Sg) (cs : List Value) (j : Nat) (G : Nat → Option Obj) (hs : SE G s cs) (hr : rightB s = true) (hj : j ≤ (scanB s).length) :
   FnO Try.prog 40 #[.agg cs.toArray, .int .i64 (((allB ((scanB s).take j)).length : Nat) : Int)] G [] (fun G' L' r => ∃ b2 b3, r = .func (.func 55) #[] #[.pointer (some ⟨b3, 0, none⟩), .pointer (some ⟨b2, 0, none⟩)] ∧ L' = [.blk b3 [.int .i64 (((allB ((scanB s).take j)).length : Nat) : Int)]] ∧
     IterC Try.prog 55 #[.pointer (some ⟨b3, 0, none⟩), .pointer (some ⟨b2, 0, none⟩)] (List.range ((scanB s).length - j)) (FA (scanB s) j) G' [.blk b3 [.int .i64 (((allB ((scanB s).take j)).length : Nat) : Int)]] (fun C => ∃ p, C = [.blk b3 [.int .i64 p]])) := by
 obtain ⟨A, c, rfl, hl, hi⟩ := hs
 refine F40.fnO (by simp) noRegs_nil (go_of ?_)
 unfold c40 cellS
 (intros; try refine go_st ?_); refine go_r 0 0 (by decide) ?_; (refine sJ c40r0.eq_1 ?_; try with_reducible exact True.intro)
 intro b2 hb2 b3 hb3
 (intros; try refine go_st ?_)
 refine go_gx (gx_blk_at [_] _) ?_
 rintro h' ⟨G1, rfl, hg1, f2⟩
 have e1 := f2 1 _ rfl
 rw [add_off] at e1
 (intros; try refine go_st ?_); refine go_r 5 6 (by decide) ?_; (refine sJ c40r1.eq_1 ?_; try with_reducible exact True.intro)
 (intros; try refine go_st ?_)
 refine go_ret (retQ_o _ rfl (List.Sublist.refl _) (noRegs_blk noRegs_nil) ?_)
 exact ⟨b2, b3, rfl, rfl, from1_iter s A c b2 b3 j G1 (SB.le hl hg1) hr hj e1⟩
theorem noneB_BE (G : Nat → Option Obj) : BE G noneB [.int .i64 0, .int .i64 0, .int .i64 0, .int .i64 0, .int .i64 0, .int .i64 0, .int .i64 0, .bool false, .int .i64 0, .slice none 0 0] := ⟨none, 0, rfl, ⟨Nat.le_refl _, Nat.zero_le _, fun i x hx => by simp [noneB] at hx⟩, by decide, by decide, by decide, by decide, by decide, by decide, by decide, by decide⟩
theorem FA_size {bs : List Batch} {j : Nat} (G : Nat → Option Obj) (x : Nat) (args : Array Value) (h : FA bs j G x args) : args.size = [22].length := by
 obtain ⟨y, _, _, _, rfl⟩ := h
 rfl
def FindR (q : Batch × Int) (G' : Nat → Option Obj) (r : Value) : Prop := ∃ cs, r = .tuple #[.agg cs.toArray, .int .i64 q.2] ∧ BE G' q.1 cs
theorem FindI_ok (s : Sg) (l : List En) (off : Int) (cs : List Value) (v : Value) (G : Nat → Option Obj) (hs : SE G s cs) (hv : SlV G EnE 3 v l) : FnD Try.prog 22 #[.agg cs.toArray, v, .int .i64 off] G (FindR (findS s l off)) := by
 have hs0 := hs
 obtain ⟨A, c, rfl, hl, hi⟩ := hs
 refine F22.fnD (by simp) (go_of ?_)
 unfold c22
 unfold cellS at hs0 ⊢
 (intros; try refine go_st ?_); refine go_r 0 0 (by decide) ?_; (refine sJ c22r0.eq_1 ?_; try with_reducible exact True.intro)
 intro b3 hb3 b5 hb5 b6 hb6 b7 hb7
 (intros; try refine go_st ?_)
 refine go_gx (gx_blk_at [_, _, _] _) ?_
 rintro h' ⟨G1, rfl, hg1, f3⟩
 refine go_gx (gx_blk_at [_, _] _) ?_
 rintro h' ⟨G2, rfl, hg2, f5⟩
 refine go_gx (gx_ne (List.Sublist.refl _)) ?_
 rintro h' ⟨rfl, hne⟩
 have e5 := f5 0 _ rfl
 rw [add_off] at e5
 have hgg := hg1.trans hg2
 have hs2 := SE.le hgg hs0
 have hv2 := hv.le hgg fun _ _ h => h
 have fin : ∀ (q : Batch × Int) (G6 : Nat → Option Obj) (cs : List Value) (T : List Kx.Item) (D : List Nat) (e : Env), q = findS s l off → e 6 = .pointer (some ⟨b6, 0, none⟩) → e 7 = .pointer (some ⟨b7, 0, none⟩) → BE G6 q.1 cs → retQ o22 (fun v (h : H) => FindR (findS s l off) h.G v) .ret e ⟨G6, .blk b7 [.int .i64 q.2] :: .blk b6 cs :: T, D⟩ := fun q G6 cs T D e hq e6 e7 hbe => by
   subst hq
   refine retQ_v (out := [.agg cs.toArray, .int .i64 (findS s l off).2]) ?_ ⟨cs, rfl, hbe⟩
   obtain ⟨B, d, rfl, -⟩ := hbe
   simp [o22, resV, Kx.getB, blkO, ldC, e6, e7, hne, cellH]
 (intros; try refine go_st ?_); refine go_r 10 13 (by decide) ?_; (refine sJ c22r1.eq_1 ?_; try with_reducible exact True.intro)
 refine ⟨_, ⟨_, [.int .i64 s.base, .slice A s.bytes.length c], rfl, rfl, rfl, fun j u hu => .g (cellG_le hg2 (f3 j u hu))⟩, ?_⟩
 (refine sI ?_; try with_reducible exact True.intro)
 have hck := CheckI_ok s l _ v G2 hs2 hv2
 refine (hck _ _).mono ?_; rintro _ _ ⟨rfl, rfl⟩; (refine sI ?_; try with_reducible exact True.intro)
 (repeat first | (with_reducible intro _) | refine go_skip ?_ | refine go_b ?_)
 (intros; try refine go_st ?_); refine go_r 13 14 (by decide) ?_; (refine sJ c22r2.eq_1 ?_; try with_reducible exact True.intro)
 (intros; try refine go_st ?_); refine go_c ?_; (refine sI ?_; try with_reducible exact True.intro)
 refine gb (fun k1 => ?_) (fun k1 => ?_)
 · have k1 := of_decide_eq_true k1
   (intros; try refine go_st ?_); refine go_r 15 17 (by decide) ?_; (refine sJ c22r3.eq_1 ?_; try with_reducible exact True.intro)
   refine stX_blk [_] [] rfl (by simp) ⟨rfl, rfl⟩ ?_
   (refine sI ?_; try with_reducible exact True.intro)
   refine stX_blk [] [_] rfl (by simp) ⟨rfl, rfl⟩ ?_
   (refine sI ?_; try with_reducible exact True.intro)
   (intros; try refine go_st ?_)
   refine go_ret (fin (noneB, chkI s l) _ _ _ _ _ (by rw [findS, if_neg k1]) ?_ ?_ (noneB_BE _))
   · (refine sI ?_; try with_reducible exact True.intro)
   · (refine sI ?_; try with_reducible exact True.intro)
 have k1 : chkI s l = 0 := by simpa using k1
 obtain ⟨hr, hsub, -⟩ := chkI_0 k1
 obtain ⟨j, hj, hlj, hall⟩ := floor_at off hsub
 have hfs := find_from k1 hall
 have hfl := Floor_ok l off v G2 hv2
 have hfr := fromI_ok s _ j G2 hs2 hr hj
 rw [hlj] at hfl
 (repeat first | (with_reducible intro _) | refine go_skip ?_ | refine go_b ?_)
 (intros; try refine go_st ?_); refine go_x _ (List.Sublist.refl _) (by decide) ?_; (refine sJ c22r4.eq_1 ?_; try with_reducible exact True.intro)
 refine ⟨_, ⟨_, [.int .i64 s.base, .slice A s.bytes.length c], rfl, rfl, rfl, fun j u hu => .g (cellG_le hg2 (f3 j u hu))⟩, ?_⟩
 (refine sI ?_; try with_reducible exact True.intro)
 refine ⟨_, ⟨_, rfl, .g e5⟩, ?_⟩
 (refine sI ?_; try with_reducible exact True.intro)
 refine (hfl _ _).mono ?_; rintro _ _ ⟨rfl, rfl⟩; (refine sI ?_; try with_reducible exact True.intro)
 refine (hfr _ _).mono ?_
 rintro r h' ⟨G3, L', rfl, hg3, bq, bp, rfl, rfl, hit⟩
 (refine sI ?_; try with_reducible exact True.intro)
 refine ⟨grow_L hg3 (.cons _ (List.Sublist.refl _)), ?_⟩
 have e5' := cellG_le hg3 e5
 (intros; try refine go_st ?_)
 refine go_ghost (ghost_perm (L' := [.blk b7 [.int .i64 0], .blk b6 [.int .i64 0, .int .i64 0, .int .i64 0, .int .i64 0, .int .i64 0, .int .i64 0, .int .i64 0, .bool false, .int .i64 0, .slice none 0 0]] ++ [.blk bp [.int .i64 (((allB ((scanB s).take j)).length : Nat) : Int)]]) (List.perm_append_comm (l₁ := [_]))) ?_
 refine go_rfC (α := Nat) (fun k G' L' => L' = [.blk b7 [.int .i64 0], .blk b6 [.int .i64 0, .int .i64 0, .int .i64 0, .int .i64 0, .int .i64 0, .int .i64 0, .int .i64 0, .bool false, .int .i64 0, .slice none 0 0]] ∧ findS s l off = findL ((scanB s).drop (j + k)) off) (fun ex k G' L' => ex = .ret ∧ ∃ x cs, L' = [.blk b7 [.int .i64 0], .blk b6 cs] ∧ BE G' x cs ∧ (x, 0) = findS s l off) rfl (eE) F55.enters (noRegs_blk (noRegs_blk noRegs_nil))
   (fun i G G' L hg h => h) hit FA_size ⟨rfl, hfs⟩ ?_ ?_ ?_
 · rintro yl k i args G' L' hki hgl ⟨x, cs, hx, hbe, rfl⟩ ⟨rfl, hst⟩ _
   obtain ⟨rfl, hkl⟩ := range_at hki
   have hat := findL_at (off := off) hx
   have e5'' := cellG_le hgl e5'
   have hbe0 := hbe
   obtain ⟨B, d, rfl, -⟩ := hbe
   unfold cellH at hbe0 ⊢
   (refine sI ?_; try with_reducible exact True.intro)
   (intros; try refine go_st ?_); refine go_r 0 0 (by decide) ?_; (refine sJ c22r5.eq_1 ?_; try with_reducible exact True.intro)
   intro bb
   refine go_nil (rnd_a ?_)
   (intros; try refine go_st ?_); refine go_r 24 26 (by decide) ?_; (refine sJ c22r6.eq_1 ?_; try with_reducible exact True.intro)
   refine ⟨_, ⟨_, rfl, .g e5''⟩, ?_⟩
   (refine sI ?_; try with_reducible exact True.intro)
   (intros; try refine go_st ?_); refine go_c ?_; (refine sI ?_; try with_reducible exact True.intro)
   refine gb (fun k2 => ?_) (fun k2 => ?_)
   · have k2 := of_decide_eq_true k2
     rw [if_pos k2] at hat
     (intros; try refine go_st ?_); refine go_r 27 28 (by decide) ?_; (refine sJ c22r7.eq_1 ?_; try with_reducible exact True.intro)
     refine stX_blk [_, _] [] rfl (by simp) ⟨rfl, rfl⟩ ?_
     (refine sI ?_; try with_reducible exact True.intro)
     refine stX_blk [_] [_] rfl (by simp) ⟨rfl, rfl⟩ ?_
     (refine sI ?_; try with_reducible exact True.intro)
     (intros; try refine go_st ?_)
     exact go_ret (rnd_r _ (.cons _ (List.Sublist.refl _)) (noRegs_blk (noRegs_blk noRegs_nil)) ⟨rfl, x, _, rfl, hbe0, by rw [hst, hat]⟩)
   · have k2 := of_decide_eq_false k2
     rw [if_neg k2] at hat
     (repeat first | (with_reducible intro _) | refine go_skip ?_ | refine go_b ?_)
     exact go_nil (rnd_n _ (.cons _ (List.Sublist.refl _)) (noRegs_blk (noRegs_blk noRegs_nil)) ⟨rfl, by rw [hst, hat]; rfl⟩)
 · rintro G' L' C' dd hgl ⟨rfl, hst⟩ _ ⟨p, rfl⟩
   rw [List.length_range, show j + ((scanB s).length - j) = (scanB s).length by omega, List.drop_length, findL_nil] at hst
   (intros; try refine go_st ?_)
   refine go_ghost (ghost_sub (List.sublist_append_left _ _)) ?_
   (intros; try refine go_st ?_); refine go_r 28 29 (by decide) ?_; (refine sJ c22r8.eq_1 ?_; try with_reducible exact True.intro)
   refine stX_blk [_] [] rfl (by simp) ⟨rfl, rfl⟩ ?_
   (refine sI ?_; try with_reducible exact True.intro)
   refine stX_blk [] [_] rfl (by simp) ⟨rfl, rfl⟩ ?_
   (refine sI ?_; try with_reducible exact True.intro)
   (intros; try refine go_st ?_)
   refine go_ret (fin (noneB, 90) _ _ _ _ _ hst.symm ?_ ?_ (noneB_BE _))
   · (refine sI ?_; try with_reducible exact True.intro)
   · (refine sI ?_; try with_reducible exact True.intro)
 · rintro ex i G' L' C' dd _ _ ⟨rfl, x, cs, rfl, hbe, hq⟩ _ ⟨p, rfl⟩
   refine fin (x, 0) _ _ _ _ _ hq ?_ ?_ hbe
   · (refine sI ?_; try with_reducible exact True.intro)
   · (refine sI ?_; try with_reducible exact True.intro)
theorem SinceI_ok (s : Sg) (l : List En) (stamp : Int) (cs : List Value) (v : Value) (G : Nat → Option Obj) (hs : SE G s cs) (hv : SlV G EnE 3 v l) : FnS Try.prog 24 #[.agg cs.toArray, v, .int .i64 stamp] G (.tuple #[.int .i64 (sinceS s l stamp).1, .int .i64 (sinceS s l stamp).2]) := by
 have hs0 := hs
 obtain ⟨A, c, rfl, hl, hi⟩ := hs
 refine F24.fnS (by simp) (go_of ?_)
 unfold c24
 unfold cellS at hs0 ⊢
 (intros; try refine go_st ?_); refine go_r 0 0 (by decide) ?_; (refine sJ c24r0.eq_1 ?_; try with_reducible exact True.intro)
 intro b3 hb3 b5 hb5 b6 hb6 b7 hb7
 (intros; try refine go_st ?_)
 refine go_gx (gx_blk_at [_, _, _] _) ?_
 rintro h' ⟨G1, rfl, hg1, f3⟩
 refine go_gx (gx_blk_at [_, _] _) ?_
 rintro h' ⟨G2, rfl, hg2, f5⟩
 refine go_gx (gx_ne (List.Sublist.refl _)) ?_
 rintro h' ⟨rfl, hne⟩
 have e5 := f5 0 _ rfl
 rw [add_off] at e5
 have hgg := hg1.trans hg2
 have hs2 := SE.le hgg hs0
 have hv2 := hv.le hgg fun _ _ h => h
 have fin : ∀ (q : Int × Int) (G6 : Nat → Option Obj) (T : List Kx.Item) (D : List Nat) (e : Env), q = sinceS s l stamp → e 6 = .pointer (some ⟨b6, 0, none⟩) → e 7 = .pointer (some ⟨b7, 0, none⟩) → retQ o24 (fun v (_ : H) => v = .tuple #[.int .i64 (sinceS s l stamp).1, .int .i64 (sinceS s l stamp).2]) .ret e ⟨G6, .blk b7 [.int .i64 q.2] :: .blk b6 [.int .i64 q.1] :: T, D⟩ := fun q G6 T D e hq e6 e7 => by
   subst hq
   refine retQ_v (out := [.int .i64 (sinceS s l stamp).1, .int .i64 (sinceS s l stamp).2]) ?_ rfl
   simp [o24, resV, Kx.getB, blkO, ldC, e6, e7, hne]
 (intros; try refine go_st ?_); refine go_r 11 14 (by decide) ?_; (refine sJ c24r1.eq_1 ?_; try with_reducible exact True.intro)
 refine ⟨_, ⟨_, [.int .i64 s.base, .slice A s.bytes.length c], rfl, rfl, rfl, fun j u hu => .g (cellG_le hg2 (f3 j u hu))⟩, ?_⟩
 (refine sI ?_; try with_reducible exact True.intro)
 have hck := CheckI_ok s l _ v G2 hs2 hv2
 refine (hck _ _).mono ?_; rintro _ _ ⟨rfl, rfl⟩; (refine sI ?_; try with_reducible exact True.intro)
 refine stX_blk [] [_] rfl (by simp) ⟨rfl, rfl⟩ ?_
 (refine sI ?_; try with_reducible exact True.intro)
 (repeat first | (with_reducible intro _) | refine go_skip ?_ | refine go_b ?_)
 (intros; try refine go_st ?_); refine go_r 14 15 (by decide) ?_; (refine sJ c24r2.eq_1 ?_; try with_reducible exact True.intro)
 refine ⟨_, ldN_blk (.head _) rfl, ?_⟩
 (refine sI ?_; try with_reducible exact True.intro)
 (intros; try refine go_st ?_); refine go_c ?_; (refine sI ?_; try with_reducible exact True.intro)
 refine gb (fun k1 => ?_) (fun k1 => ?_)
 · have k1 := of_decide_eq_true k1
   (intros; try refine go_st ?_); refine go_w _ (List.Sublist.refl _) (by decide) ?_; (refine sJ c24r3.eq_1 ?_; try with_reducible exact True.intro)
   refine ⟨_, ldN_blk (.head _) rfl, ?_⟩
   (refine sI ?_; try with_reducible exact True.intro)
   refine stX_blk [_] [] rfl (by simp) ⟨rfl, rfl⟩ ?_
   (refine sI ?_; try with_reducible exact True.intro)
   refine stX_blk [] [_] rfl (by simp) ⟨rfl, rfl⟩ ?_
   (refine sI ?_; try with_reducible exact True.intro)
   (intros; try refine go_st ?_)
   refine go_ret (fin (0, chkI s l) _ _ _ _ (by rw [sinceS, if_neg k1]) ?_ ?_)
   · (refine sI ?_; try with_reducible exact True.intro)
   · (refine sI ?_; try with_reducible exact True.intro)
 have k1 : chkI s l = 0 := by simpa using k1
 obtain ⟨hr, hsub, -⟩ := chkI_0 k1
 obtain ⟨j, hj, hlj, hall⟩ := when_at stamp hsub
 have hfs := since_from k1 hall
 have hfl := When_ok l stamp v G2 hv2
 have hfr := fromI_ok s _ j G2 hs2 hr hj
 rw [hlj] at hfl
 rw [k1]
 (repeat first | (with_reducible intro _) | refine go_skip ?_ | refine go_b ?_)
 (intros; try refine go_st ?_); refine go_x _ (List.Sublist.refl _) (by decide) ?_; (refine sJ c24r4.eq_1 ?_; try with_reducible exact True.intro)
 refine ⟨_, ⟨_, [.int .i64 s.base, .slice A s.bytes.length c], rfl, rfl, rfl, fun j u hu => .g (cellG_le hg2 (f3 j u hu))⟩, ?_⟩
 (refine sI ?_; try with_reducible exact True.intro)
 refine ⟨_, ⟨_, rfl, .g e5⟩, ?_⟩
 (refine sI ?_; try with_reducible exact True.intro)
 refine (hfl _ _).mono ?_; rintro _ _ ⟨rfl, rfl⟩; (refine sI ?_; try with_reducible exact True.intro)
 refine (hfr _ _).mono ?_
 rintro r h' ⟨G3, L', rfl, hg3, bq, bp, rfl, rfl, hit⟩
 (refine sI ?_; try with_reducible exact True.intro)
 refine ⟨grow_L hg3 (.cons _ (List.Sublist.refl _)), ?_⟩
 have e5' := cellG_le hg3 e5
 (intros; try refine go_st ?_)
 refine go_ghost (ghost_perm (L' := [.blk b7 [.int .i64 0], .blk b6 [.int .i64 0]] ++ [.blk bp [.int .i64 (((allB ((scanB s).take j)).length : Nat) : Int)]]) (List.perm_append_comm (l₁ := [_]))) ?_
 refine go_rfC (α := Nat) (fun k G' L' => L' = [.blk b7 [.int .i64 0], .blk b6 [.int .i64 0]] ∧ sinceS s l stamp = sinceL ((scanB s).drop (j + k)) stamp) (fun ex k G' L' => ex = .ret ∧ ∃ q : Int × Int, L' = [.blk b7 [.int .i64 q.2], .blk b6 [.int .i64 q.1]] ∧ q = sinceS s l stamp) rfl (eE) F55.enters (noRegs_blk (noRegs_blk noRegs_nil))
   (fun i G G' L hg h => h) hit FA_size ⟨rfl, hfs⟩ ?_ ?_ ?_
 · rintro yl k i args G' L' hki hgl ⟨x, cs, hx, hbe, rfl⟩ ⟨rfl, hst⟩ _
   obtain ⟨rfl, hkl⟩ := range_at hki
   have hat := sinceL_at (stamp := stamp) hx
   have e5'' := cellG_le hgl e5'
   have hbe0 := hbe
   obtain ⟨B, d, rfl, ⟨hBc, hBm, hBA⟩, -⟩ := hbe
   unfold cellH at hbe0 ⊢
   (refine sI ?_; try with_reducible exact True.intro)
   (intros; try refine go_st ?_); refine go_r 0 0 (by decide) ?_; (refine sJ c24r5.eq_1 ?_; try with_reducible exact True.intro)
   intro bb
   refine go_nil (rnd_a ?_)
   (intros; try refine go_st ?_); refine go_r 0 0 (by decide) ?_; (refine sJ c24r6.eq_1 ?_; try with_reducible exact True.intro)
   (intros; try refine go_st ?_)
   refine go_loop (fun e h => ∃ t : Nat, (t ≤ x.recs.length ∧ ∀ r ∈ x.recs.take t, recP stamp r = false) ∧ e 5 = .pointer (some ⟨b5, 0, none⟩) ∧ e 6 = .pointer (some ⟨b6, 0, none⟩) ∧ e 7 = .pointer (some ⟨b7, 0, none⟩) ∧ e 24 = .slice B x.recs.length d ∧ e 25 = .int .i64 x.recs.length ∧ e 26 = .int .i64 t ∧ h = ⟨G', [.reg 8 [.int .i64 x.base, .int .i64 x.last, .int .i64 x.src, .int .i64 x.epoch, .int .i64 x.pid, .int .i64 x.gen, .int .i64 x.seq, .bool x.txn, .int .i64 x.ctl, .slice B x.recs.length d], .blk b7 [.int .i64 0], .blk b6 [.int .i64 0]], []⟩) (fun e h => x.recs.length - iv (e 26)) ?_ ?_
   · exact ⟨0, ⟨Nat.zero_le _, fun r h => by cases h⟩, eE, eE, eE, eE, eE, eE, rfl⟩
   rintro e h ⟨t, ⟨ht, hrs⟩, e5x, e6, e7, e24, e25, e26, rfl⟩
   refine go_keep [5, 6, 7, 24, 25, 26] ?_
   (refine sJ6 @e5x @e6 @e7 @e24 @e25 @e26 ?_; try with_reducible exact True.intro)
   (intros; try refine go_st ?_); refine go_r 0 0 (by decide) ?_; (refine sJ c24r7.eq_1 ?_; try with_reducible exact True.intro)
   (intros; try refine go_st ?_); refine go_c ?_; (refine sI ?_; try with_reducible exact True.intro)
   refine gb (fun htk => ?_) (fun htk => ?_)
   · have htk : t < x.recs.length := by have := of_decide_eq_true htk; omega
     have hw := inc_i t d (by omega) hBm
     obtain ⟨r, hr⟩ : ∃ r, x.recs[t]? = some r := ⟨x.recs[t], List.getElem?_eq_getElem htk⟩
     (repeat first | (with_reducible intro _) | refine go_skip ?_ | refine go_b ?_)
     (intros; try refine go_st ?_); refine go_r 28 30 (by decide) ?_; (refine sJ c24r8.eq_1 ?_; try with_reducible exact True.intro)
     refine hBA.x_ld hr rfl rfl ?_
     rintro a2 ha2 cs ⟨rfl, -⟩
     unfold cellR
     (refine sI ?_; try with_reducible exact True.intro)
     (intros; try refine go_st ?_); refine go_r 31 33 (by decide) ?_; (refine sJ c24r9.eq_1 ?_; try with_reducible exact True.intro)
     refine ⟨_, ⟨_, rfl, .g e5''⟩, ?_⟩
     (refine sI ?_; try with_reducible exact True.intro)
     (intros; try refine go_st ?_); refine go_c ?_; (refine sI ?_; try with_reducible exact True.intro)
     refine gb (fun k2 => ?_) (fun k2 => ?_)
     · have k2 := of_decide_eq_true k2
       have hfd : x.recs.find? (recP stamp) = some r := find_at hrs hr (decide_eq_true k2)
       rw [hfd] at hat
       (intros; try refine go_st ?_); refine go_r 35 36 (by decide) ?_; (refine sJ c24r10.eq_1 ?_; try with_reducible exact True.intro)
       refine stX_blk [_, _, _] [] rfl (by simp) ⟨rfl, rfl⟩ ?_
       (refine sI ?_; try with_reducible exact True.intro)
       refine stX_blk [_, _] [_] rfl (by simp) ⟨rfl, rfl⟩ ?_
       (refine sI ?_; try with_reducible exact True.intro)
       (intros; try refine go_st ?_)
       exact go_ret (rnd_r _ (.cons _ (.cons _ (List.Sublist.refl _))) (noRegs_blk (noRegs_blk noRegs_nil)) ⟨rfl, (r.off, 0), rfl, by rw [hst, hat]⟩)
     · have k2 := of_decide_eq_false k2
       (repeat first | (with_reducible intro _) | refine go_skip ?_ | refine go_b ?_)
       refine go_ghost (ghost_sub (L' := [.reg 8 [.int .i64 x.base, .int .i64 x.last, .int .i64 x.src, .int .i64 x.epoch, .int .i64 x.pid, .int .i64 x.gen, .int .i64 x.seq, .bool x.txn, .int .i64 x.ctl, .slice B x.recs.length d], .blk b7 [.int .i64 0], .blk b6 [.int .i64 0]]) (.cons _ (List.Sublist.refl _))) ?_
       (intros; try refine go_st ?_); refine go_r 36 37 (by decide) ?_; (refine sJ2 c24r11.eq_1 @hw ?_; try with_reducible exact True.intro)
       (intros; try refine go_st ?_)
       refine go_l ⟨⟨t + 1, ⟨by omega, fun y hy => ?_⟩, eE, eE, eE, eE, eE, eE, rfl⟩, ?_⟩
       · rw [take_snoc hr] at hy
         rcases List.mem_append.1 hy with hy | hy
         · exact hrs y hy
         · rw [List.mem_singleton.1 hy]
           exact decide_eq_false k2
       · (refine sI ?_; try with_reducible exact True.intro)
         omega
   · have htk : t = x.recs.length := by have := of_decide_eq_false htk; omega
     subst htk
     rw [List.take_length] at hrs
     rw [find_none hrs] at hat
     refine go_exit ?_
     (refine sI ?_; try with_reducible exact True.intro)
     (repeat first | (with_reducible intro _) | refine go_skip ?_ | refine go_b ?_)
     exact go_nil (rnd_n _ (.cons _ (List.Sublist.refl _)) (noRegs_blk (noRegs_blk noRegs_nil)) ⟨rfl, by rw [hst, hat]; rfl⟩)
 · rintro G' L' C' dd hgl ⟨rfl, hst⟩ _ ⟨p, rfl⟩
   rw [List.length_range, show j + ((scanB s).length - j) = (scanB s).length by omega, List.drop_length, sinceL_nil] at hst
   (intros; try refine go_st ?_)
   refine go_ghost (ghost_sub (List.sublist_append_left _ _)) ?_
   (intros; try refine go_st ?_); refine go_r 0 0 (by decide) ?_; (refine sJ c24r12.eq_1 ?_; try with_reducible exact True.intro)
   refine stX_blk [_] [] rfl (by simp) ⟨rfl, rfl⟩ ?_
   (refine sI ?_; try with_reducible exact True.intro)
   refine stX_blk [] [_] rfl (by simp) ⟨rfl, rfl⟩ ?_
   (refine sI ?_; try with_reducible exact True.intro)
   (intros; try refine go_st ?_)
   refine go_ret (fin (0, 90) _ _ _ _ hst.symm ?_ ?_)
   · (refine sI ?_; try with_reducible exact True.intro)
   · (refine sI ?_; try with_reducible exact True.intro)
 · rintro ex i G' L' C' dd _ _ ⟨rfl, q, rfl, hq⟩ _ ⟨p, rfl⟩
   refine fin q _ _ _ _ hq ?_ ?_
   · (refine sI ?_; try with_reducible exact True.intro)
   · (refine sI ?_; try with_reducible exact True.intro)
theorem F41 : Fun Try.prog 41 50 v41 c41 o41 := Fun.mk' Try.func41 Try.ntmps41 (by kernel_rfl) (by kernel_rfl) s41 q41
theorem nextB_take {bs : List Batch} {t : Nat} {y : Batch} (b : Int) (h0 : 0 < t) (hy : bs[t - 1]? = some y) : nextB b (bs.take t) = y.last + 1 := by
 have := nextB_at b hy
 rwa [show t - 1 + 1 = t by omega] at this
theorem ordB_ge : ∀ {nx : Int} {bs : List Batch}, ordB nx bs → (∀ x ∈ bs, errB x = 0) → nx ≤ nextB nx bs
 | nx, [], _, _ => Int.le_refl _
 | nx, x :: bs, ho, hok => by
   have h1 := ordB_ge ho.2 (fun z hz => hok z (.tail _ hz))
   have h2 : x.base ≤ x.last := (errB_ok (hok x (.head _))).1.2.2.1.1
   have h3 := ho.1
   simp only [nextB]
   omega
theorem nextB_last0 {W : List Batch} {x : Batch} (b : Int) (hx : W[W.length - 1]? = some x) : nextB b W = x.last + 1 := by
 have h1 := (List.getElem?_eq_some_iff.1 hx).1
 have := nextB_at b hx
 rwa [show W.length - 1 + 1 = W.length by omega, List.take_length] at this
set_option maxHeartbeats 1000000 in
theorem RScan_ok (s : Sg) (cs : List Value) (G : Nat → Option Obj) (hs : SE G s cs) (hb : s.bytes.length ≤ 1000000) : FnO Try.prog 41 #[.agg cs.toArray] G [] (fun G' L' r => ScanR s G' L' r) := by
 have hs0 := hs
 obtain ⟨A, c, rfl, hl, hi⟩ := hs
 refine F41.fnO (by simp) noRegs_nil (go_of ?_)
 obtain ⟨rr, hsc⟩ := scan_spec s
 have hSR : ∀ G' u zc, Cells (BE G') 10 (scanB s) zc → ScanR s G' [.row u 38 10 (scanB s).length zc] (.tuple #[u, .int .i64 (((allB (scanB s)).length : Nat) : Int)]) := fun G' u zc h => ⟨u, zc, rfl, h, rfl⟩
 generalize scanB s = bs at hsc hSR
 have hlen := hsc.len
 unfold c41
 unfold cellS at hs0 ⊢
 (intros; try refine go_st ?_); refine go_r 0 0 (by decide) ?_; (refine sJ c41r0.eq_1 ?_; try with_reducible exact True.intro)
 (intros; try refine go_st ?_); refine go_r 0 0 (by decide) ?_; (refine sJ c41r1.eq_1 ?_; try with_reducible exact True.intro)
 (intros; try refine go_st ?_); refine go_r 0 0 (by decide) ?_; (refine sJ c41r2.eq_1 ?_; try with_reducible exact True.intro)
 (repeat (with_reducible intro _))
 (intros; try refine go_st ?_)
 refine go_ghost (ghost_nil none 38 10) ?_
 refine go_loop (fun e h => ∃ (t : Nat) (G' : Nat → Option Obj) (u : Value) (zc : List Value) (Lh : List Kx.Item), (t ≤ bs.length ∧ Gle G G' ∧ Cells (BE G') 10 (bs.take t) zc) ∧ e 4 = u ∧ e 5 = .int .i64 (((allB (bs.take t)).length : Nat) : Int) ∧ h = ⟨G', Lh, []⟩ ∧ [.row u 38 10 (bs.take t).length zc, .reg 1 [.int .i64 s.base, .slice A s.bytes.length c]].Sublist Lh) (fun e h => s.bytes.length + 1 - iv (e 5)) ?_ ?_
 · exact ⟨0, G, _, [], _, ⟨Nat.zero_le _, .refl G, .nil⟩, eE, rfl, rfl, List.Sublist.refl _⟩
 rintro e h ⟨t, G', u, zc, Lh, ⟨ht, hgg, hzc⟩, e4, e5, rfl, hsub⟩
 refine go_keep [4, 5] ?_
 (refine sJ2 @e4 @e5 ?_; try with_reducible exact True.intro)
 (repeat (with_reducible intro _))
 refine go_ghost (ghost_sub hsub) ?_
 have hget := RBGet_ok s.bytes (((allB (bs.take t)).length : Nat) : Int) _ G' (SB.le hl hgg) hb
 unfold GetBR at hget
 have htk := allB_take_le bs t
 have htl2 : (bs.take t).length = t := by rw [List.length_take]; omega
 (intros; try refine go_st ?_); refine go_r 9 17 (by decide) ?_; (refine sJ c41r3.eq_1 ?_; try with_reducible exact True.intro)
 refine (hget _ _).mono ?_
 rintro v h' ⟨G1, rfl, hg1, cs, rfl, hbe⟩
 have hg01 := hgg.trans hg1
 have hzc := cells_imp hzc fun _ _ h => BE.le hg1 h
 by_cases htl : t < bs.length
 · obtain ⟨x, hx⟩ : ∃ x, bs[t]? = some x := ⟨bs[t], List.getElem?_eq_getElem htl⟩
   obtain ⟨a1, a2, a3, a4⟩ := hsc.at_ hx
   rw [a1] at hbe ⊢
   dsimp only at hbe ⊢
   have hbe0 := hbe
   obtain ⟨B, d, rfl, -⟩ := hbe
   have hlt : (allB (bs.take t)).length < (allB (bs.take (t + 1))).length := by
     have := bytesB_pos x
     rw [allB_take hx, List.length_append]
     omega
   have hle := allB_take_le bs (t + 1)
   have htk1 : bs.take (t + 1) = bs.take t ++ [x] := by rw [List.take_add_one, hx]; rfl
   have hge : s.base ≤ nextB s.base (bs.take t) := ordB_ge (ordB_take hsc.ord t) fun z hz => hsc.ok z (List.mem_of_mem_take hz)
   have n1 : decide ((0 : Int) ≠ 0) = false := by decide
   have n2 : decide (x.base < s.base) = false := decide_eq_false (by omega)
   unfold cellH at hbe0 ⊢
   (refine sI ?_; try with_reducible exact True.intro)
   (repeat (with_reducible intro _)); try refine go_seq ?_
   refine go_gx (gx_knowS (.tail _ (.head _))) ?_
   rintro h' ⟨rfl, Au, cu, rfl, hcu, hmu⟩
   refine go_cut (fun e h => e 4 = .slice Au (bs.take t).length cu ∧ e 7 = .int .i64 (((allB (bs.take (t + 1))).length : Nat) : Int) ∧ h = ⟨G1, [.reg 6 [.int .i64 x.base, .int .i64 x.last, .int .i64 x.src, .int .i64 x.epoch, .int .i64 x.pid, .int .i64 x.gen, .int .i64 x.seq, .bool x.txn, .int .i64 x.ctl, .slice B x.recs.length d], .row (.slice Au (bs.take t).length cu) 38 10 (bs.take t).length zc, .reg 1 [.int .i64 s.base, .slice A s.bytes.length c]], []⟩) ?_ ?_
   · by_cases h0 : 0 < t
     · refine go_gx (gx_know (.tail _ (.head _)) (by omega)) ?_
       rintro h' ⟨rfl, g, c0, hA3, -, -⟩
       cases hA3
       obtain ⟨y, hy⟩ : ∃ y, bs[t - 1]? = some y := ⟨bs[t - 1]'(by omega), List.getElem?_eq_getElem _⟩
       have hyt : (bs.take t)[t - 1]? = some y := by rw [List.getElem?_take, if_pos (by omega)]; exact hy
       have hnx := nextB_take s.base h0 hy
       have hw1 := len_i t h0 (by omega)
       have n3 : decide (0 < (((bs.take t).length : Nat) : Int)) = true := decide_eq_true (by omega)
       have n4 : decide (x.base ≤ y.last) = false := decide_eq_false (by omega)
       obtain ⟨cy, hEy, hly, hcy⟩ := hzc.get hyt
       have hv1 := hcy 1 (.int .i64 y.last) (by obtain ⟨_, _, rfl, -⟩ := hEy; rfl)
       have hw1 : IntKind.i64.wrap ((((bs.take t).length : Nat) : Int) - 1) = ((t - 1 : Nat) : Int) := by rw [htl2]; exact hw1
       (intros; try refine go_st ?_); refine go_q 17 42 (by decide) ?_; (refine sJ5 c41r4.eq_1 @n1 @n2 @n3 @hw1 ?_; try with_reducible exact True.intro)
       refine ⟨by omega, _, rfl, ?_⟩
       rw [add_off, add_off, Nat.zero_add]
       refine ⟨_, ldN_row (.tail _ (.head _)) hv1, ?_⟩
       (refine sJ @n4 ?_; try with_reducible exact True.intro)
       (intros; try refine go_st ?_); refine go_c ?_; (refine sI ?_; try with_reducible exact True.intro)
       (intros; try refine go_st ?_)
       exact go_l ⟨eE, eE, rfl⟩
     · have n3 : decide (0 < (((bs.take t).length : Nat) : Int)) = false := decide_eq_false (by omega)
       (intros; try refine go_st ?_); refine go_q 17 42 (by decide) ?_; (refine sJ4 c41r4.eq_1 @n1 @n2 @n3 ?_; try with_reducible exact True.intro)
       (intros; try refine go_st ?_); refine go_c ?_; (refine sI ?_; try with_reducible exact True.intro)
       (intros; try refine go_st ?_)
       exact go_l ⟨eE, eE, rfl⟩
   rintro e h ⟨e4, e7, rfl⟩
   refine go_keep [4, 7] ?_
   (refine sJ2 @e4 @e7 ?_; try with_reducible exact True.intro)
   (repeat (with_reducible intro _))
   (intros; try refine go_st ?_); refine go_r 45 49 (by decide) ?_; (refine sJ c41r6.eq_1 ?_; try with_reducible exact True.intro)
   intro bk hbk
   refine app1 (L1 := [_]) (L2 := [_]) (E := BE G1) (x := x) rfl hbe0 rfl (by simp [Value.oneCell']) hzc (by omega) (by omega) fun A' c' zc' hzc' => ?_
   rw [← htk1] at hzc' ⊢
   (refine sI ?_; try with_reducible exact True.intro)
   (intros; try refine go_st ?_); refine go_r 49 50 (by decide) ?_; (refine sJ c41r7.eq_1 ?_; try with_reducible exact True.intro)
   (intros; try refine go_st ?_)
   refine go_l ⟨⟨t + 1, G1, _, zc', _, ⟨by omega, hg01, hzc'⟩, eE, eE, rfl, .cons _ (.cons _ (List.Sublist.refl _))⟩, ?_⟩
   (refine sI ?_; try with_reducible exact True.intro)
   omega
 · have htl : t = bs.length := by omega
   subst htl
   rw [List.take_length] at hget hbe hzc ⊢
   have hend := hsc.end_
   generalize getB s.bytes (((allB bs).length : Nat) : Int) = q at *
   obtain ⟨x, nx, er⟩ := q
   dsimp only at hbe hend ⊢
   obtain ⟨B, d, rfl, -⟩ := hbe
   unfold cellH
   have hfin := hSR G1 u zc hzc
   have hret : ∀ (e : Env) (fr : List Td), e 4 = u → e 5 = .int .i64 (((allB bs).length : Nat) : Int) → go none Try.prog 50 v41.1 v41.2 (retQ o41 fun v h => ScanR s h.G h.L v) (Td.s ((SC.reg false c41r5).seq .ret) :: fr) e ⟨G1, [.reg 6 [.int .i64 x.base, .int .i64 x.last, .int .i64 x.src, .int .i64 x.epoch, .int .i64 x.pid, .int .i64 x.gen, .int .i64 x.seq, .bool x.txn, .int .i64 x.ctl, .slice B x.recs.length d], .row u 38 10 bs.length zc, .reg 1 [.int .i64 s.base, .slice A s.bytes.length c]], []⟩ := fun e fr e4 e5 => by
     refine go_keep [4, 5] ?_
     (refine sJ2 @e4 @e5 ?_; try with_reducible exact True.intro)
     (intros; try refine go_st ?_); refine go_r 43 45 (by decide) ?_; (refine sJ c41r5.eq_1 ?_; try with_reducible exact True.intro)
     (intros; try refine go_st ?_)
     exact go_ret (retQ_o _ rfl (.cons _ (.cons_cons _ (List.nil_sublist _))) (noRegs_row noRegs_nil) hfin)
   (refine sI ?_; try with_reducible exact True.intro)
   (repeat (with_reducible intro _)); try refine go_seq ?_
   refine go_gx (gx_knowS (.tail _ (.head _))) ?_
   rintro h' ⟨rfl, Au, cu, rfl, hcu, hmu⟩
   by_cases h0 : 0 < bs.length
   · refine go_gx (gx_know (.tail _ (.head _)) (by omega)) ?_
     rintro h' ⟨rfl, g, c0, hA3, -, -⟩
     cases hA3
     obtain ⟨y, hy⟩ : ∃ y, bs[bs.length - 1]? = some y := ⟨bs[bs.length - 1]'(by omega), List.getElem?_eq_getElem _⟩
     have hnx := nextB_last0 s.base hy
     have hw1 := len_i bs.length h0 (by omega)
     have n3 : decide (0 < ((bs.length : Nat) : Int)) = true := decide_eq_true (by omega)
     obtain ⟨cy, hEy, hly, hcy⟩ := hzc.get hy
     have hv1 := hcy 1 (.int .i64 y.last) (by obtain ⟨_, _, rfl, -⟩ := hEy; rfl)
     (intros; try refine go_st ?_); refine go_q 17 42 (by decide) ?_; (refine sJ c41r4.eq_1 ?_; try with_reducible exact True.intro)
     refine gq (fun k1 => ?_) (fun k1 => ?_)
     · (refine sI ?_; try with_reducible exact True.intro)
       (intros; try refine go_st ?_); refine go_c ?_; (refine sI ?_; try with_reducible exact True.intro)
       exact hret _ _ (eE) (eE)
     have k1 : er = 0 := by simpa using k1
     (refine sI ?_; try with_reducible exact True.intro)
     refine gq (fun k2 => ?_) (fun k2 => ?_)
     · (refine sI ?_; try with_reducible exact True.intro)
       (intros; try refine go_st ?_); refine go_c ?_; (refine sI ?_; try with_reducible exact True.intro)
       exact hret _ _ (eE) (eE)
     have k2 := of_decide_eq_false k2
     have n4 : decide (x.base ≤ y.last) = true := decide_eq_true (by rcases hend with h | h; exact absurd k1 h; omega)
     (refine sJ2 @n3 @hw1 ?_; try with_reducible exact True.intro)
     refine ⟨by omega, _, rfl, ?_⟩
     rw [add_off, add_off, Nat.zero_add]
     refine ⟨_, ldN_row (.tail _ (.head _)) hv1, ?_⟩
     (refine sJ @n4 ?_; try with_reducible exact True.intro)
     (intros; try refine go_st ?_); refine go_c ?_; (refine sI ?_; try with_reducible exact True.intro)
     exact hret _ _ (eE) (eE)
   · have hb0 : bs = [] := List.eq_nil_of_length_eq_zero (by omega)
     have hnx : nextB s.base bs = s.base := by rw [hb0]; rfl
     (intros; try refine go_st ?_); refine go_q 17 42 (by decide) ?_; (refine sJ c41r4.eq_1 ?_; try with_reducible exact True.intro)
     refine gq (fun k1 => ?_) (fun k1 => ?_)
     · (refine sI ?_; try with_reducible exact True.intro)
       (intros; try refine go_st ?_); refine go_c ?_; (refine sI ?_; try with_reducible exact True.intro)
       exact hret _ _ (eE) (eE)
     have k1 : er = 0 := by simpa using k1
     have k2 : decide (x.base < s.base) = true := decide_eq_true (by rcases hend with h | h; exact absurd k1 h; omega)
     (refine sJ @k2 ?_; try with_reducible exact True.intro)
     (intros; try refine go_st ?_); refine go_c ?_; (refine sI ?_; try with_reducible exact True.intro)
     exact hret _ _ (eE) (eE)
theorem F35 : Fun Try.prog 35 29 v35 c35 o35 := Fun.mk' Try.func35 Try.ntmps35 (by kernel_rfl) (by kernel_rfl) s35 q35
theorem F15 : Fun Try.prog 15 26 v15 c15 o15 := Fun.mk' Try.func15 Try.ntmps15 (by kernel_rfl) (by kernel_rfl) s15 q15
theorem RRight_ok (s : Sg) (cs : List Value) (G : Nat → Option Obj) (hs : SE G s cs) : FnS Try.prog 35 #[.agg cs.toArray] G (.bool (rightB s)) := by
 have hs0 := hs
 obtain ⟨A, c, rfl, hl, hi⟩ := hs
 refine F35.fnS (by simp) (go_of ?_)
 unfold c35
 unfold cellS at hs0 ⊢
 (intros; try refine go_st ?_); refine go_r 0 0 (by decide) ?_; (refine sJ c35r0.eq_1 ?_; try with_reducible exact True.intro)
 have hbad : ¬ rightB s = true → ∀ (fr : List Td) (e : Env), go none Try.prog 29 v35.1 v35.2 (retQ o35 fun v _ => v = .bool (rightB s)) (Td.s ((SC.reg false c35r2).seq .ret) :: fr) e ⟨G, [.reg 1 [.int .i64 s.base, .slice A s.bytes.length c]], []⟩ := fun hn fr e => by
   (intros; try refine go_st ?_); refine go_r 0 0 (by decide) ?_; (refine sJ c35r2.eq_1 ?_; try with_reducible exact True.intro)
   (intros; try refine go_st ?_)
   refine go_ret (retQ_v rfl ?_); simp only [push_cast, Nat.reduceBEq]
   rw [show rightB s = false by simpa using hn]
 (intros; try refine go_st ?_); refine go_r 6 18 (by decide) ?_; (refine sJ c35r1.eq_1 ?_; try with_reducible exact True.intro)
 refine gd (fun k1 => ?_) (fun k1 => ?_)
 · (refine sI ?_; try with_reducible exact True.intro)
   (intros; try refine go_st ?_); refine go_c ?_; (refine sI ?_; try with_reducible exact True.intro)
   have k1 := of_decide_eq_true k1
   exact hbad (fun h => by have := (rightB_iff.1 h).1; simp [inO] at this; omega) _ _
 have k1 := of_decide_eq_false k1
 (refine sI ?_; try with_reducible exact True.intro)
 refine gd (fun k2 => ?_) (fun k2 => ?_)
 · (refine sI ?_; try with_reducible exact True.intro)
   (intros; try refine go_st ?_); refine go_c ?_; (refine sI ?_; try with_reducible exact True.intro)
   have k2 := of_decide_eq_true k2
   exact hbad (fun h => by have := (rightB_iff.1 h).1; simp [inO] at this; omega) _ _
 have k2 := of_decide_eq_false k2
 (refine sI ?_; try with_reducible exact True.intro)
 (intros; try refine go_st ?_); refine go_c ?_; (refine sI ?_; try with_reducible exact True.intro)
 refine gb (fun k3 => ?_) (fun k3 => ?_)
 · have k3 := of_decide_eq_true k3
   exact hbad (fun h => by have := (rightB_iff.1 h).2.1; omega) _ _
 have k3 := of_decide_eq_false k3
 clear hbad
 (repeat first | (with_reducible intro _) | refine go_skip ?_ | refine go_b ?_)
 (intros; try refine go_st ?_); refine go_r 19 24 (by decide) ?_; (refine sJ c35r3.eq_1 ?_; try with_reducible exact True.intro)
 refine (RScan_ok s _ G hs0 (by omega) _ _).mono ?_
 rintro r h' ⟨G1, L', rfl, hg1, u, zc, rfl, hzc, rfl⟩
 have hr : rightB s = decide (((goodB s : Nat) : Int) = (s.bytes.length : Int)) := by
   have hb : inO s.base = true := by simp [inO]; omega
   have hl : decide (s.bytes.length ≤ 4096) = true := decide_eq_true (by omega)
   rw [rightB, hb, hl, Bool.true_and, Bool.true_and]
   exact decide_eq_decide.2 (by omega)
 (refine sI ?_; try with_reducible exact True.intro)
 (intros; try refine go_st ?_); refine go_r 24 29 (by decide) ?_; (refine sJ c35r4.eq_1 ?_; try with_reducible exact True.intro)
 (intros; try refine go_st ?_)
 refine go_ret (retQ_v rfl ?_); simp only [push_cast, Nat.reduceBEq]
 rw [hr]
theorem RESame_ok (a b : List En) (v u : Value) (G : Nat → Option Obj) (ha : SlV G EnE 3 v a) (hb : SlV G EnE 3 u b) : FnS Try.prog 15 #[v, u] G (.bool (decide (a = b))) := by
 obtain ⟨A, c, rfl, hc, hm, hA⟩ := ha
 obtain ⟨B, d, rfl, hd, hn, hB⟩ := hb
 refine F15.fnS (by simp) (go_of ?_)
 unfold c15
 (intros; try refine go_st ?_); refine go_r 0 0 (by decide) ?_; (refine sJ c15r0.eq_1 ?_; try with_reducible exact True.intro)
 (intros; try refine go_st ?_); refine go_r 6 10 (by decide) ?_; (refine sJ c15r1.eq_1 ?_; try with_reducible exact True.intro)
 (intros; try refine go_st ?_); refine go_c ?_; (refine sI ?_; try with_reducible exact True.intro)
 refine gb (fun k0 => ?_) (fun k0 => ?_)
 · have k0 := of_decide_eq_true k0
   (intros; try refine go_st ?_); refine go_r 0 0 (by decide) ?_; (refine sJ c15r2.eq_1 ?_; try with_reducible exact True.intro)
   (intros; try refine go_st ?_)
   refine go_ret (retQ_v rfl ?_); simp only [push_cast, Nat.reduceBEq]
   rw [show decide (a = b) = false from decide_eq_false fun h => by subst h; exact k0 rfl]
 have k0 := of_decide_eq_false k0
 have hlen : a.length = b.length := by omega
 (repeat first | (with_reducible intro _) | refine go_skip ?_ | refine go_b ?_)
 (intros; try refine go_st ?_); refine go_r 0 0 (by decide) ?_; (refine sJ c15r3.eq_1 ?_; try with_reducible exact True.intro)
 (intros; try refine go_st ?_)
 refine go_loop (fun e h => ∃ k : Nat, (k ≤ a.length ∧ a.take k = b.take k) ∧ e 5 = .int .i64 k ∧ e 0 = .slice A a.length c ∧ e 1 = .slice B b.length d ∧ h = ⟨G, [], []⟩) (fun e h => a.length - iv (e 5)) ?_ ?_
 · exact ⟨0, ⟨Nat.zero_le _, rfl⟩, eE, eE, eE, rfl⟩
 rintro e h ⟨k, ⟨hk, hch⟩, e5, e0, e1, rfl⟩
 refine go_keep [0, 1, 5] ?_
 (refine sJ3 @e0 @e1 @e5 ?_; try with_reducible exact True.intro)
 (intros; try refine go_st ?_); refine go_r 11 14 (by decide) ?_; (refine sJ c15r4.eq_1 ?_; try with_reducible exact True.intro)
 (intros; try refine go_st ?_); refine go_c ?_; (refine sI ?_; try with_reducible exact True.intro)
 refine gb (fun k1 => ?_) (fun k1 => ?_)
 · have hkl : k < a.length := by have := of_decide_eq_true k1; omega
   have hw := inc_i k c (by omega) hm
   obtain ⟨x, hx⟩ : ∃ x, a[k]? = some x := ⟨a[k], List.getElem?_eq_getElem (by omega)⟩
   obtain ⟨y, hy⟩ : ∃ y, b[k]? = some y := ⟨b[k], List.getElem?_eq_getElem (by omega)⟩
   have hq : (!(decide (x.off = y.off) && (decide (x.pos = y.pos) && decide (x.stamp = y.stamp)))) = !decide (x = y) := by
     congr 1
     rw [Bool.eq_iff_iff]
     cases x; cases y
     simp
   (repeat first | (with_reducible intro _) | refine go_skip ?_ | refine go_b ?_)
   (intros; try refine go_st ?_); refine go_q 17 25 (by decide) ?_; (refine sJ c15r5.eq_1 ?_; try with_reducible exact True.intro)
   refine hA.y_ld hx rfl rfl ?_
   rintro a1 ha1 cs hcs
   cases (show cs = cellE x from hcs)
   unfold cellE
   (refine sI ?_; try with_reducible exact True.intro)
   refine hB.y_ld hy rfl rfl ?_
   rintro a2 ha2 cs hcs
   cases (show cs = cellE y from hcs)
   unfold cellE
   (refine sJ2 @eqf_E @hq ?_; try with_reducible exact True.intro)
   (intros; try refine go_st ?_); refine go_c ?_; (refine sI ?_; try with_reducible exact True.intro)
   refine gb (fun h4 => ?_) (fun h4 => ?_)
   · (intros; try refine go_st ?_); refine go_r 0 0 (by decide) ?_; (refine sJ c15r6.eq_1 ?_; try with_reducible exact True.intro)
     (intros; try refine go_st ?_)
     refine go_ret (retQ_v rfl ?_); simp only [push_cast, Nat.reduceBEq]
     rw [show decide (a = b) = false from decide_eq_false fun e => by subst e; rw [hx] at hy; cases hy; simp at h4]
   · have hxy : x = y := by simpa using h4
     (repeat first | (with_reducible intro _) | refine go_skip ?_ | refine go_b ?_)
     (intros; try refine go_st ?_); refine go_r 15 17 (by decide) ?_; (refine sJ2 c15r7.eq_1 @hw ?_; try with_reducible exact True.intro)
     (intros; try refine go_st ?_)
     refine go_l ⟨⟨k + 1, ⟨by omega, ?_⟩, eE, eE, eE, rfl⟩, ?_⟩
     · rw [List.take_add_one, List.take_add_one, hch, hx, hy, hxy]
     · (refine sI ?_; try with_reducible exact True.intro)
       omega
 · have hkl : k = a.length := by have := of_decide_eq_false k1; omega
   subst hkl
   refine go_exit ?_
   (refine sI ?_; try with_reducible exact True.intro)
   (repeat first | (with_reducible intro _) | refine go_skip ?_ | refine go_b ?_)
   (intros; try refine go_st ?_); refine go_r 0 0 (by decide) ?_; (refine sJ c15r8.eq_1 ?_; try with_reducible exact True.intro)
   (intros; try refine go_st ?_)
   refine go_ret (retQ_v rfl ?_); simp only [push_cast, Nat.reduceBEq]
   rw [List.take_length, hlen, List.take_length] at hch
   rw [decide_eq_true hch]
theorem F36 : Fun Try.prog 36 61 v36 c36 o36 := Fun.mk' Try.func36 Try.ntmps36 (by kernel_rfl) (by kernel_rfl) s36 q36
theorem F14 : Fun Try.prog 14 56 v14 c14 o14 := Fun.mk' Try.func14 Try.ntmps14 (by kernel_rfl) (by kernel_rfl) s14 q14
theorem F17 : Fun Try.prog 17 42 v17 c17 o17 := Fun.mk' Try.func17 Try.ntmps17 (by kernel_rfl) (by kernel_rfl) s17 q17
theorem recs_ld {P : Program} {h : H} {d : Nat} {l : List SI} {K : Env → H → Prop} {e : Addr → Env} {G : Nat → Option Obj} {A : Option Addr} {bs : List Batch} {j : Int} {k : Nat} {x : Batch} (hA : SlA G (BE G) 10 A bs) (hx : bs[k]? = some x) (hj : j = k) (hG : h.G = G)
   (hk : ∀ a B c, A = some a → (x.recs.length ≤ c ∧ c ≤ maxLen ∧ SlA G RR 5 B x.recs) → kR P l d (e a) K (.slice B x.recs.length c) h) : (0 ≤ j ∧ j < bs.length) ∧ ∃ a, A = some a ∧ ldX P (.pointer (some ((a.add (j.toNat * 10)).add 9))) none d l (e a) h K := by
 obtain ⟨G', L, D⟩ := h
 dsimp only at hG
 subst hG
 obtain ⟨a, cs, ha, ⟨B, c, rfl, hB, -⟩, _, _, hld⟩ := hA.at_ hx L D
 have := SlA.lt hx
 subst hj
 exact ⟨by omega, a, ha, _, by simpa using hld 9 _ rfl, hk a B c ha hB⟩
theorem Rents_ok (s : Sg) (cs : List Value) (G : Nat → Option Obj) (hs : SE G s cs) (hb : s.bytes.length ≤ 1000000) : FnO Try.prog 36 #[.agg cs.toArray] G [] (fun _ L' r => OwnL EnE 53 3 (allE s) L' r) := by
 have hs0 := hs
 obtain ⟨A, c, rfl, hl, hi⟩ := hs
 obtain ⟨rr, hsc⟩ := scan_spec s
 refine F36.fnO (by simp) noRegs_nil (go_of ?_)
 unfold c36
 unfold cellS at hs0 ⊢
 (intros; try refine go_st ?_); refine go_r 0 0 (by decide) ?_; (refine sJ c36r0.eq_1 ?_; try with_reducible exact True.intro)
 (intros; try refine go_st ?_); refine go_r 10 15 (by decide) ?_; (refine sJ c36r1.eq_1 ?_; try with_reducible exact True.intro)
 refine (RScan_ok s _ G hs0 hb _ _).mono ?_
 rintro r h' ⟨G1, L', rfl, hg1, u, zc, rfl, hzc, rfl⟩
 have hget := fun k b => allE_get (s := s) rfl (k := k) (b := b)
 have hlen := allE_len s
 have hsl := hsc.len
 have hsok := hsc.ok
 generalize allE s = es at hget hlen
 generalize scanB s = bs at hget hlen hsl hzc hsok
 (refine sI ?_; try with_reducible exact True.intro)
 (intros; try refine go_st ?_)
 refine go_gx (gx_slv_at [] _ (by decide) hzc) ?_
 rintro h' ⟨G2, rfl, hg2, A2, c2, rfl, hc2, hm2, hA2⟩
 have hA2 := hA2.le (.refl _) (E' := BE G2) fun _ _ h => BE.le hg2 h
 (intros; try refine go_st ?_); refine go_r 0 0 (by decide) ?_; (refine sJ c36r2.eq_1 ?_; try with_reducible exact True.intro)
 (intros; try refine go_st ?_); refine go_r 0 0 (by decide) ?_; (refine sJ c36r3.eq_1 ?_; try with_reducible exact True.intro)
 (intros; try refine go_st ?_); refine go_r 0 0 (by decide) ?_; (refine sJ c36r4.eq_1 ?_; try with_reducible exact True.intro)
 (intros; try refine go_st ?_)
 refine go_ghost (ghost_nil none 53 3) ?_
 (intros; try refine go_st ?_); refine go_r 0 0 (by decide) ?_; (refine sJ c36r5.eq_1 ?_; try with_reducible exact True.intro)
 (intros; try refine go_st ?_)
 refine go_loop (fun e h => ∃ (t : Nat) (u : Value) (zc : List Value), (t ≤ bs.length ∧ Cells EnE 3 (es.take t) zc) ∧ e 3 = .slice A2 bs.length c2 ∧ e 5 = .int .i64 (((allB (bs.take t)).length : Nat) : Int) ∧ e 6 = .int .i64 ((bs.take t).foldl stM (-1)) ∧ e 7 = u ∧ e 8 = .int .i64 t ∧ h = ⟨G2, [.row u 53 3 (es.take t).length zc, .reg 1 [.int .i64 s.base, .slice A s.bytes.length c]], []⟩) (fun e h => bs.length - iv (e 8)) ?_ ?_
 · exact ⟨0, _, [], ⟨Nat.zero_le _, .nil⟩, eE, by rfl, by rfl, eE, eE, rfl⟩
 rintro e h ⟨t, u, zc, ⟨ht, hzc⟩, e3, e5, e6, e7, e8, rfl⟩
 refine go_keep [3, 5, 6, 7, 8] ?_
 (refine sJ5 @e3 @e5 @e6 @e7 @e8 ?_; try with_reducible exact True.intro)
 (intros; try refine go_st ?_); refine go_r 15 18 (by decide) ?_; (refine sJ c36r6.eq_1 ?_; try with_reducible exact True.intro)
 (intros; try refine go_st ?_); refine go_c ?_; (refine sI ?_; try with_reducible exact True.intro)
 refine gb (fun k1 => ?_) (fun k1 => ?_)
 · have htl : t < bs.length := by have := of_decide_eq_true k1; omega
   obtain ⟨x, hx⟩ : ∃ x, bs[t]? = some x := ⟨bs[t], List.getElem?_eq_getElem htl⟩
   have hxe := hget t x hx
   have hw := inc_i t c2 (by omega) hm2
   (repeat first | (with_reducible intro _) | refine go_skip ?_ | refine go_b ?_)
   (intros; try refine go_st ?_); refine go_r 0 0 (by decide) ?_; (refine sJ c36r7.eq_1 ?_; try with_reducible exact True.intro)
   (repeat (with_reducible intro _))
   refine go_cut (fun e h => e 3 = .slice A2 bs.length c2 ∧ e 5 = .int .i64 (((allB (bs.take t)).length : Nat) : Int) ∧ e 6 = .int .i64 (stR ((bs.take t).foldl stM (-1)) x.recs) ∧ e 7 = u ∧ e 8 = .int .i64 t ∧ h = ⟨G2, [.row u 53 3 (es.take t).length zc, .reg 1 [.int .i64 s.base, .slice A s.bytes.length c]], []⟩) ?_ ?_
   · (intros; try refine go_st ?_)
     refine go_loop (fun e h => ∃ k : Nat, k ≤ x.recs.length ∧ e 3 = .slice A2 bs.length c2 ∧ e 5 = .int .i64 (((allB (bs.take t)).length : Nat) : Int) ∧ e 6 = .int .i64 (stR ((bs.take t).foldl stM (-1)) (x.recs.take k)) ∧ e 7 = u ∧ e 8 = .int .i64 t ∧ e 9 = .int .i64 k ∧ h = ⟨G2, [.row u 53 3 (es.take t).length zc, .reg 1 [.int .i64 s.base, .slice A s.bytes.length c]], []⟩) (fun e h => x.recs.length - iv (e 9)) ?_ ?_
     · exact ⟨0, Nat.zero_le _, eE, eE, by rfl, eE, eE, eE, rfl⟩
     rintro e h ⟨k, hk, e3, e5, e6, e7, e8, e9, rfl⟩
     refine go_keep [3, 5, 6, 7, 8, 9] ?_
     (refine sJ6 @e3 @e5 @e6 @e7 @e8 @e9 ?_; try with_reducible exact True.intro)
     (intros; try refine go_st ?_); refine go_r 21 28 (by decide) ?_; (refine sJ c36r8.eq_1 ?_; try with_reducible exact True.intro)
     refine recs_ld hA2 hx rfl rfl ?_
     rintro a1 B d ha1 ⟨hBc, hBm, hBA⟩
     (refine sI ?_; try with_reducible exact True.intro)
     (intros; try refine go_st ?_); refine go_c ?_; (refine sI ?_; try with_reducible exact True.intro)
     refine gb (fun k2 => ?_) (fun k2 => ?_)
     · have htk : k < x.recs.length := by have := of_decide_eq_true k2; omega
       have hwk := inc_i k d (by omega) hBm
       obtain ⟨r, hr⟩ : ∃ r, x.recs[k]? = some r := ⟨x.recs[k], List.getElem?_eq_getElem htk⟩
       have hst := stR_snoc (m := (bs.take t).foldl stM (-1)) hr
       (repeat first | (with_reducible intro _) | refine go_skip ?_ | refine go_b ?_)
       (intros; try refine go_st ?_); refine go_r 31 42 (by decide) ?_; (refine sJ c36r9.eq_1 ?_; try with_reducible exact True.intro)
       refine recs_ld hA2 hx rfl rfl ?_
       rintro a2 B2 d2 ha2 ⟨hBc2, hBm2, hBA2⟩
       (refine sI ?_; try with_reducible exact True.intro)
       refine hBA2.x_lf (u := .int .i64 r.stamp) hr rfl rfl (fun cs h => by obtain ⟨rfl, -⟩ := h; rfl) fun a ha => ?_
       (refine sI ?_; try with_reducible exact True.intro)
       (repeat first | (with_reducible intro _) | refine go_skip ?_ | refine go_b ?_)
       (intros; try refine go_st ?_); refine go_r 29 31 (by decide) ?_; (refine sJ2 c36r10.eq_1 @hwk ?_; try with_reducible exact True.intro)
       (intros; try refine go_st ?_)
       refine go_l ⟨⟨k + 1, by omega, eE, eE, by rw [hst]; (refine sI ?_; try with_reducible exact True.intro), eE, eE, eE, rfl⟩, ?_⟩
       (refine sI ?_; try with_reducible exact True.intro)
       omega
     · have htk : k = x.recs.length := by have := of_decide_eq_false k2; omega
       subst htk
       have htr : x.recs.take x.recs.length = x.recs := List.take_length
       refine go_exit ?_
       (refine sI ?_; try with_reducible exact True.intro)
       (repeat first | (with_reducible intro _) | refine go_skip ?_ | refine go_b ?_)
       exact go_l ⟨eE, eE, (eJ @htr), eE, eE, rfl⟩
   rintro e h ⟨e3, e5, e6, e7, e8, rfl⟩
   refine go_keep [3, 5, 6, 7, 8] ?_
   (refine sJ5 @e3 @e5 @e6 @e7 @e8 ?_; try with_reducible exact True.intro)
   have hfm := foldM_snoc (m := -1) hx
   rw [stM_R] at hfm
   rw [← hfm]
   have hat := allB_take hx
   have hle := allB_take_le bs (t + 1)
   rw [hat, List.length_append] at hle
   have hle0 := allB_take_le bs t
   (repeat (with_reducible intro _))
   (intros; try refine go_st ?_); refine go_r 42 53 (by decide) ?_; (refine sJ c36r11.eq_1 ?_; try with_reducible exact True.intro)
   refine hA2.x_lf (u := .int .i64 x.base) hx rfl rfl (fun cs h => by obtain ⟨_, _, rfl, -⟩ := h; rfl) fun a ha => ?_
   (refine sI ?_; try with_reducible exact True.intro)
   intro bk hbk
   refine app1 (L1 := []) (L2 := [_]) (E := EnE) (x := entAt bs t x) rfl rfl rfl (by simp [Value.oneCell']) hzc (by rw [List.length_take]; omega) (by omega) fun A' c' zc' hzc' => ?_
   rw [← take_snoc hxe] at hzc' ⊢
   (refine sI ?_; try with_reducible exact True.intro)
   (repeat (with_reducible intro _)); try refine go_seq ?_
   refine go_ghost (ghost_sub (.cons _ (List.Sublist.refl _))) ?_
   (intros; try refine go_st ?_); refine go_r 53 60 (by decide) ?_; (refine sJ c36r12.eq_1 ?_; try with_reducible exact True.intro)
   refine hA2.x_ld hx rfl rfl ?_
   rintro a3 ha3 cs hbe
   have hsz := RSize_ok x cs G2 hbe
   rw [sizeB, putB_0 (hsok x (List.mem_of_getElem? hx))] at hsz
   have hwa : IntKind.i64.wrap ((((allB (bs.take t)).length : Nat) : Int) + (((bytesB x).length : Nat) : Int)) = (((allB (bs.take (t + 1))).length : Nat) : Int) := by rw [hat, List.length_append, w64_id] <;> omega
   (refine sI ?_; try with_reducible exact True.intro)
   refine (hsz _ _).mono ?_; rintro _ _ ⟨rfl, rfl⟩; (refine sJ @hwa ?_; try with_reducible exact True.intro)
   (repeat first | (with_reducible intro _) | refine go_skip ?_ | refine go_b ?_)
   (intros; try refine go_st ?_); refine go_r 19 21 (by decide) ?_; (refine sJ2 c36r13.eq_1 @hw ?_; try with_reducible exact True.intro)
   (intros; try refine go_st ?_)
   refine go_l ⟨⟨t + 1, _, zc', ⟨by omega, hzc'⟩, eE, eE, eE, rfl, eE, eE⟩, ?_⟩
   (refine sI ?_; try with_reducible exact True.intro)
   omega
 · have htl : t = bs.length := by have := of_decide_eq_false k1; omega
   subst htl
   rw [← hlen, List.take_length] at hzc ⊢
   refine go_exit ?_
   (refine sI ?_; try with_reducible exact True.intro)
   (repeat first | (with_reducible intro _) | refine go_skip ?_ | refine go_b ?_)
   (intros; try refine go_st ?_); refine go_r 60 61 (by decide) ?_; (refine sJ c36r14.eq_1 ?_; try with_reducible exact True.intro)
   (intros; try refine go_st ?_)
   exact go_ret (retQ_o _ rfl (.cons_cons _ (List.nil_sublist _)) (noRegs_row noRegs_nil) ⟨zc, hzc, rfl⟩)
theorem RMake_ok (s : Sg) (every : Int) (cs : List Value) (G : Nat → Option Obj) (hs : SE G s cs) : FnO Try.prog 14 #[.agg cs.toArray, .int .i64 every] G [] (fun _ L' r => MakeR s every L' r) := by
 have hs0 := hs
 obtain ⟨A, c, rfl, hl, hi⟩ := hs
 refine F14.fnO (by simp) noRegs_nil (go_of ?_)
 unfold c14
 unfold cellS at hs0 ⊢
 have hrt := RRight_ok s _ G hs0
 (intros; try refine go_st ?_); refine go_r 0 0 (by decide) ?_; (refine sJ c14r0.eq_1 ?_; try with_reducible exact True.intro)
 have hbad : makeS s every = ([], 1) → ∀ (fr : List Td) (e : Env), go none Try.prog 56 v14.1 v14.2 (retQ o14 fun v h => MakeR s every h.L v) (Td.s ((SC.reg false c14r2).seq .ret) :: fr) e ⟨G, [.reg 2 [.int .i64 s.base, .slice A s.bytes.length c]], []⟩ := fun hn fr e => by
   (intros; try refine go_st ?_); refine go_r 0 0 (by decide) ?_; (refine sJ c14r2.eq_1 ?_; try with_reducible exact True.intro)
   (intros; try refine go_st ?_)
   refine go_ghost (ghost_nil none 53 3) ?_
   refine go_ret (retQ_o _ rfl (.cons_cons _ (List.nil_sublist _)) (noRegs_row noRegs_nil) ?_)
   exact ⟨_, [], by rw [hn]; rfl, by rw [hn]; exact .nil, by rw [hn]; rfl⟩
 (intros; try refine go_st ?_); refine go_r 9 19 (by decide) ?_; (refine sJ c14r1.eq_1 ?_; try with_reducible exact True.intro)
 refine (hrt _ _).mono ?_; rintro _ _ ⟨rfl, rfl⟩; (refine sI ?_; try with_reducible exact True.intro)
 refine gd (fun k1 => ?_) (fun k1 => ?_)
 · (refine sI ?_; try with_reducible exact True.intro)
   (intros; try refine go_st ?_); refine go_c ?_; (refine sI ?_; try with_reducible exact True.intro)
   exact hbad (by rw [makeS, if_neg fun h => by rw [h.1] at k1; cases k1]) _ _
 have k1 : rightB s = true := by simpa using k1
 (refine sI ?_; try with_reducible exact True.intro)
 refine gd (fun k2 => ?_) (fun k2 => ?_)
 · (refine sI ?_; try with_reducible exact True.intro)
   (intros; try refine go_st ?_); refine go_c ?_; (refine sI ?_; try with_reducible exact True.intro)
   have k2 := of_decide_eq_true k2
   exact hbad (by rw [makeS, if_neg fun h => by omega]) _ _
 have k2 := of_decide_eq_false k2
 (refine sI ?_; try with_reducible exact True.intro)
 (intros; try refine go_st ?_); refine go_c ?_; (refine sI ?_; try with_reducible exact True.intro)
 refine gb (fun k3 => ?_) (fun k3 => ?_)
 · have k3 := of_decide_eq_true k3
   exact hbad (by rw [makeS, if_neg fun h => by omega]) _ _
 have k3 := of_decide_eq_false k3
 clear hbad
 have hmk : makeS s every = (mkE every 0 (allE s), 0) := by rw [makeS, if_pos ⟨k1, by omega, by omega⟩]
 have hR : ∀ u zc, Cells EnE 3 (mkE every 0 (allE s)) zc → MakeR s every [.row u 53 3 (mkE every 0 (allE s)).length zc] (.tuple #[u, .int .i64 0]) := fun u zc h => ⟨u, zc, by rw [hmk], by rw [hmk]; exact h, by rw [hmk]⟩
 have hmr := mkR_mk (every := every) (es := allE s) fun e he => allE_head he
 have hps := all_pos k1
 obtain ⟨rr, hsc⟩ := scan_spec s
 have hsl := hsc.len
 have hen : ∀ x ∈ allE s, 0 ≤ x.pos ∧ x.pos ≤ 4096 := fun x hx => by
   obtain ⟨k, hk⟩ := List.getElem?_of_mem hx
   have hkl := (List.getElem?_eq_some_iff.1 hk).1
   rw [allE_len] at hkl
   have := allE_get (s := s) rfl (List.getElem?_eq_getElem hkl)
   rw [hk] at this
   cases this
   have := (hps k).1
   show 0 ≤ (((allB ((scanB s).take k)).length : Nat) : Int) ∧ (((allB ((scanB s).take k)).length : Nat) : Int) ≤ 4096
   omega
 have hp0 := (hps 0).2
 have hln : (allE s).length ≤ 4096 := by rw [allE_len]; omega
 have hse := (rightB_iff.1 k1).2.1
 (repeat first | (with_reducible intro _) | refine go_skip ?_ | refine go_b ?_)
 (intros; try refine go_st ?_); refine go_r 20 22 (by decide) ?_; (refine sJ c14r3.eq_1 ?_; try with_reducible exact True.intro)
 refine (Rents_ok s _ G hs0 (by omega) _ _).mono ?_
 rintro r h' ⟨G1, L', rfl, hg1, zc, hzc, rfl⟩
 generalize allE s = es at hzc hmr hen hR hln
 (refine sI ?_; try with_reducible exact True.intro)
 (intros; try refine go_st ?_)
 refine go_gx (gx_slv_at [] _ (by decide) hzc) ?_
 rintro h' ⟨G2, rfl, hg2, A2, c2, rfl, hc2, hm2, hA2⟩
 (intros; try refine go_st ?_); refine go_r 0 0 (by decide) ?_; (refine sJ c14r4.eq_1 ?_; try with_reducible exact True.intro)
 (intros; try refine go_st ?_)
 refine go_ghost (ghost_nil none 53 3) ?_
 (intros; try refine go_st ?_); refine go_r 0 0 (by decide) ?_; (refine sJ c14r5.eq_1 ?_; try with_reducible exact True.intro)
 (intros; try refine go_st ?_)
 refine go_loop (fun e h => ∃ (t : Nat) (u : Value) (zc : List Value) (out : List En), (t ≤ es.length ∧ Cells EnE 3 out zc ∧ (out = mkR every [] (es.take t) ∧ out.length ≤ t ∧ ∀ z ∈ out, z ∈ es)) ∧ e 1 = .int .i64 every ∧ e 6 = .slice A2 es.length c2 ∧ e 7 = u ∧ e 8 = .int .i64 t ∧ h = ⟨G2, [.row u 53 3 out.length zc, .reg 2 [.int .i64 s.base, .slice A s.bytes.length c]], []⟩) (fun e h => es.length - iv (e 8)) ?_ ?_
 · exact ⟨0, _, [], [], ⟨Nat.zero_le _, .nil, rfl, Nat.zero_le _, fun z h => by cases h⟩, eE, eE, eE, eE, rfl⟩
 rintro e h ⟨t, u, zc, out, ⟨ht, hzc, hout, hol, hoe⟩, e1, e6, e7, e8, rfl⟩
 refine go_keep [1, 6, 7, 8] ?_
 (refine sJ4 @e1 @e6 @e7 @e8 ?_; try with_reducible exact True.intro)
 (intros; try refine go_st ?_); refine go_r 22 25 (by decide) ?_; (refine sJ c14r6.eq_1 ?_; try with_reducible exact True.intro)
 (intros; try refine go_st ?_); refine go_c ?_; (refine sI ?_; try with_reducible exact True.intro)
 refine gb (fun k5 => ?_) (fun k5 => ?_)
 · have htl : t < es.length := by have := of_decide_eq_true k5; omega
   obtain ⟨x, hx⟩ : ∃ x, es[t]? = some x := ⟨es[t], List.getElem?_eq_getElem htl⟩
   have hw := inc_i t c2 (by omega) hm2
   have hst := mkR_snoc every (es.take t) [] x
   rw [← take_snoc hx, ← hout] at hst
   have hxp := hen x (List.mem_of_getElem? hx)
   (repeat (with_reducible intro _)); try refine go_seq ?_
   try refine go_skip ?_
   (repeat (with_reducible intro _)); try refine go_seq ?_
   refine go_blk ?_
   (repeat (with_reducible intro _)); try refine go_seq ?_
   refine go_cut (fun e h => e 47 = .bool (match out.getLast? with | none => true | some z => decide (every ≤ x.pos - z.pos)) ∧ e 1 = .int .i64 every ∧ e 6 = .slice A2 es.length c2 ∧ e 7 = u ∧ e 8 = .int .i64 t ∧ h = ⟨G2, [.row u 53 3 out.length zc, .reg 2 [.int .i64 s.base, .slice A s.bytes.length c]], []⟩) ?_ ?_
   · cases hg : out.getLast? with
     | none =>
       have h0 : out = [] := List.getLast?_eq_none_iff.1 hg
       subst h0
       (intros; try refine go_st ?_)
       refine go_gx (gx_knowS (.head _)) ?_
       rintro h' ⟨rfl, A3, c3, rfl, -, -⟩
       (intros; try refine go_st ?_); refine go_q 28 47 (by decide) ?_; (refine sJ c14r7.eq_1 ?_; try with_reducible exact True.intro)
       (intros; try refine go_st ?_)
       exact go_l ⟨eE, eE, eE, eE, eE, rfl⟩
     | some z =>
       have hz0 : 0 < out.length := by cases out with | nil => cases hg | cons a l => simp
       have hgz : out[out.length - 1]? = some z := by rw [← List.getLast?_eq_getElem?]; exact hg
       have hzp := hen z (hoe z (List.mem_of_getLast? hg))
       obtain ⟨cz, hcz, -, hcell⟩ := hzc.get hgz
       cases (show cz = cellE z from hcz)
       have hc1 := hcell 1 _ rfl
       have hz : decide ((out.length : Int) = 0) = false := decide_eq_false (by omega)
       have hw1 := len_i out.length (by omega) (by unfold maxLen; omega)
       have hw2 : IntKind.i64.wrap (x.pos - z.pos) = x.pos - z.pos := by rw [w64_id] <;> omega
       (intros; try refine go_st ?_)
       refine go_gx (gx_know (.head _) hz0) ?_
       rintro h' ⟨rfl, g3, c3, rfl, -, -⟩
       (intros; try refine go_st ?_); refine go_q 28 47 (by decide) ?_; (refine sJ2 c14r7.eq_1 @hz ?_; try with_reducible exact True.intro)
       refine hA2.y_lf (u := .int .i64 x.pos) hx rfl rfl (fun cs h => by cases (show cs = cellE x from h); rfl) fun a ha => ?_
       (refine sJ @hw1 ?_; try with_reducible exact True.intro)
       refine ⟨by omega, _, rfl, ?_⟩
       rw [add_off, add_off, Nat.zero_add]
       refine ⟨_, ldN_row (.head _) hc1, ?_⟩
       (refine sJ @hw2 ?_; try with_reducible exact True.intro)
       (intros; try refine go_st ?_)
       exact go_l ⟨eE, eE, eE, eE, eE, rfl⟩
   rintro e h ⟨e47, e1, e6, e7, e8, rfl⟩
   refine go_keep [1, 6, 7, 8, 47] ?_
   (refine sJ5 @e1 @e6 @e7 @e8 @e47 ?_; try with_reducible exact True.intro)
   (intros; try refine go_st ?_); refine go_c ?_; (refine sI ?_; try with_reducible exact True.intro)
   refine gb (fun k6 => ?_) (fun k6 => ?_)
   · have hst2 : mkR every [] (es.take (t + 1)) = out ++ [x] := by
       rw [hst]
       cases hg : out.getLast? with
       | none => rfl
       | some z =>
         rw [hg] at k6
         dsimp only
         rw [if_pos (of_decide_eq_true k6)]
     (intros; try refine go_st ?_); refine go_r 48 55 (by decide) ?_; (refine sJ c14r8.eq_1 ?_; try with_reducible exact True.intro)
     refine hA2.x_ld hx rfl rfl ?_
     rintro a1 ha1 cs hcs
     cases (show cs = cellE x from hcs)
     unfold cellE
     (refine sI ?_; try with_reducible exact True.intro)
     intro bk hbk
     refine app1 (L1 := []) (L2 := [_]) (E := EnE) (x := x) rfl rfl rfl (by simp [Value.oneCell']) hzc (by omega) (by omega) fun A' c' zc' hzc' => ?_
     (refine sI ?_; try with_reducible exact True.intro)
     (repeat first | (with_reducible intro _) | refine go_skip ?_ | refine go_b ?_)
     refine go_ghost (ghost_sub (.cons _ (List.Sublist.refl _))) ?_
     (intros; try refine go_st ?_); refine go_r 26 28 (by decide) ?_; (refine sJ2 c14r9.eq_1 @hw ?_; try with_reducible exact True.intro)
     (intros; try refine go_st ?_)
     refine go_l ⟨⟨t + 1, _, zc', out ++ [x], ⟨by omega, hzc', hst2.symm, by simp; omega, fun y hy => ?_⟩, eE, eE, rfl, eE, eE⟩, ?_⟩
     · rcases List.mem_append.1 hy with hy | hy
       · exact hoe y hy
       · rw [List.mem_singleton.1 hy]; exact List.mem_of_getElem? hx
     · (refine sI ?_; try with_reducible exact True.intro)
       omega
   · have hst2 : mkR every [] (es.take (t + 1)) = out := by
       rw [hst]
       cases hg : out.getLast? with
       | none => rw [hg] at k6; cases k6
       | some z =>
         rw [hg] at k6
         dsimp only
         rw [if_neg (of_decide_eq_false k6)]
     (repeat first | (with_reducible intro _) | refine go_skip ?_ | refine go_b ?_)
     (intros; try refine go_st ?_); refine go_r 26 28 (by decide) ?_; (refine sJ2 c14r9.eq_1 @hw ?_; try with_reducible exact True.intro)
     (intros; try refine go_st ?_)
     refine go_l ⟨⟨t + 1, _, zc, out, ⟨by omega, hzc, hst2.symm, by omega, hoe⟩, eE, eE, eE, eE, rfl⟩, ?_⟩
     (refine sI ?_; try with_reducible exact True.intro)
     omega
 · have htl : t = es.length := by have := of_decide_eq_false k5; omega
   subst htl
   rw [List.take_length, hmr] at hout
   subst hout
   refine go_exit ?_
   (refine sI ?_; try with_reducible exact True.intro)
   (repeat first | (with_reducible intro _) | refine go_skip ?_ | refine go_b ?_)
   (intros; try refine go_st ?_); refine go_r 55 56 (by decide) ?_; (refine sJ c14r10.eq_1 ?_; try with_reducible exact True.intro)
   (intros; try refine go_st ?_)
   exact go_ret (retQ_o _ rfl (.cons_cons _ (List.nil_sublist _)) (noRegs_row noRegs_nil) (hR u zc hzc))
theorem RCheckI_ok (s : Sg) (l : List En) (cs : List Value) (v : Value) (G : Nat → Option Obj) (hs : SE G s cs) (hv : SlV G EnE 3 v l) : FnS Try.prog 17 #[.agg cs.toArray, v] G (.int .i64 (chkI s l)) := by
 have hs0 := hs
 obtain ⟨A, c, rfl, hl, hi⟩ := hs
 obtain ⟨B, d, rfl, hd, hm, hB⟩ := hv
 refine F17.fnS (by simp) (go_of ?_)
 unfold c17
 unfold cellS at hs0 ⊢
 have hrt := RRight_ok s _ G hs0
 (intros; try refine go_st ?_); refine go_r 0 0 (by decide) ?_; (refine sJ c17r0.eq_1 ?_; try with_reducible exact True.intro)
 (intros; try refine go_st ?_); refine go_r 8 10 (by decide) ?_; (refine sJ c17r1.eq_1 ?_; try with_reducible exact True.intro)
 refine (hrt _ _).mono ?_; rintro _ _ ⟨rfl, rfl⟩; (refine sI ?_; try with_reducible exact True.intro)
 (intros; try refine go_st ?_); refine go_c ?_; (refine sI ?_; try with_reducible exact True.intro)
 refine gb (fun k1 => ?_) (fun k1 => ?_)
 · (intros; try refine go_st ?_); refine go_r 0 0 (by decide) ?_; (refine sJ c17r2.eq_1 ?_; try with_reducible exact True.intro)
   (intros; try refine go_st ?_)
   refine go_ret (retQ_v rfl ?_); simp only [push_cast, Nat.reduceBEq]
   rw [chkI, if_neg fun h => by rw [h.1] at k1; cases k1]
 have k1 : rightB s = true := by simpa using k1
 obtain ⟨rr, hsc⟩ := scan_spec s
 have hchk : chkI s l = if chkE l (allE s) = true then 0 else 1 := by
   unfold chkI
   simp [k1]
 have hse := (rightB_iff.1 k1).2.1
 have hsl := hsc.len
 have hln : (allE s).length ≤ 4096 := by rw [allE_len]; omega
 (repeat first | (with_reducible intro _) | refine go_skip ?_ | refine go_b ?_)
 (intros; try refine go_st ?_); refine go_r 11 13 (by decide) ?_; (refine sJ c17r3.eq_1 ?_; try with_reducible exact True.intro)
 refine (Rents_ok s _ G hs0 (by omega) _ _).mono ?_
 rintro r h' ⟨G1, L', rfl, hg1, zc, hzc, rfl⟩
 generalize allE s = es at hzc hchk hln
 (refine sI ?_; try with_reducible exact True.intro)
 (intros; try refine go_st ?_)
 refine go_gx (gx_slv_at [] _ (by decide) hzc) ?_
 rintro h' ⟨G2, rfl, hg2, A2, c2, rfl, hc2, hm2, hA2⟩
 have hB2 := hB.le (hg1.trans hg2) fun _ _ h => h
 (intros; try refine go_st ?_); refine go_r 0 0 (by decide) ?_; (refine sJ c17r4.eq_1 ?_; try with_reducible exact True.intro)
 (intros; try refine go_st ?_); refine go_r 0 0 (by decide) ?_; (refine sJ c17r5.eq_1 ?_; try with_reducible exact True.intro)
 (intros; try refine go_st ?_)
 refine go_loop (fun e h => ∃ (t n : Nat), (t ≤ es.length ∧ n ≤ l.length ∧ ((t = 0 ∧ n = 0) ∨ (0 < t ∧ chkE l es = subB (l.drop n) (es.drop t)))) ∧ e 1 = .slice B l.length d ∧ e 5 = .slice A2 es.length c2 ∧ e 6 = .int .i64 n ∧ e 7 = .int .i64 t ∧ h = ⟨G2, [.reg 2 [.int .i64 s.base, .slice A s.bytes.length c]], []⟩) (fun e h => es.length - iv (e 7)) ?_ ?_
 · exact ⟨0, 0, ⟨Nat.zero_le _, Nat.zero_le _, .inl ⟨rfl, rfl⟩⟩, eE, eE, eE, eE, rfl⟩
 rintro e h ⟨t, n, ⟨ht, hn, hi⟩, e1, e5, e6, e7, rfl⟩
 refine go_keep [1, 5, 6, 7] ?_
 (refine sJ4 @e1 @e5 @e6 @e7 ?_; try with_reducible exact True.intro)
 (intros; try refine go_st ?_); refine go_r 13 16 (by decide) ?_; (refine sJ c17r6.eq_1 ?_; try with_reducible exact True.intro)
 (intros; try refine go_st ?_); refine go_c ?_; (refine sI ?_; try with_reducible exact True.intro)
 refine gb (fun k5 => ?_) (fun k5 => ?_)
 · have htl : t < es.length := by have := of_decide_eq_true k5; omega
   obtain ⟨x, hx⟩ : ∃ x, es[t]? = some x := ⟨es[t], List.getElem?_eq_getElem htl⟩
   have hw := inc_i t c2 (by omega) hm2
   have hsub := subB_at (l := l) (n := n) hx
   have hck := chkE_at (l := l) (es := es) (e := x)
   (repeat (with_reducible intro _)); try refine go_seq ?_
   try refine go_skip ?_
   (repeat (with_reducible intro _)); try refine go_seq ?_
   refine go_blk ?_
   (repeat (with_reducible intro _)); try refine go_seq ?_
   refine go_cut (fun e h => e 33 = .bool (decide (l[n]? = some x)) ∧ e 1 = .slice B l.length d ∧ e 5 = .slice A2 es.length c2 ∧ e 6 = .int .i64 n ∧ e 7 = .int .i64 t ∧ h = ⟨G2, [.reg 2 [.int .i64 s.base, .slice A s.bytes.length c]], []⟩) ?_ ?_
   · cases hg : l[n]? with
     | none =>
       have hz : decide ((n : Int) < (l.length : Int)) = false := decide_eq_false (by have := List.getElem?_eq_none_iff.1 hg; omega)
       have hd0 : decide ((none : Option En) = some x) = false := by simp
       (intros; try refine go_st ?_); refine go_q 19 33 (by decide) ?_; (refine sJ2 c17r7.eq_1 @hz ?_; try with_reducible exact True.intro)
       (intros; try refine go_st ?_)
       exact go_l ⟨(eJ @hd0), eE, eE, eE, eE, rfl⟩
     | some y =>
       have hz : decide ((n : Int) < (l.length : Int)) = true := decide_eq_true (by have := (List.getElem?_eq_some_iff.1 hg).1; omega)
       have hq : (decide (y.off = x.off) && (decide (y.pos = x.pos) && decide (y.stamp = x.stamp))) = decide (some y = some x) := by
         rw [Bool.eq_iff_iff]
         cases x; cases y
         simp
       (intros; try refine go_st ?_); refine go_q 19 33 (by decide) ?_; (refine sJ2 c17r7.eq_1 @hz ?_; try with_reducible exact True.intro)
       refine hB2.y_ld hg rfl rfl ?_
       rintro a1 ha1 cs hcs
       cases (show cs = cellE y from hcs)
       unfold cellE
       (refine sI ?_; try with_reducible exact True.intro)
       refine hA2.y_ld hx rfl rfl ?_
       rintro a2 ha2 cs hcs
       cases (show cs = cellE x from hcs)
       unfold cellE
       (refine sI ?_; try with_reducible exact True.intro)
       (intros; try refine go_st ?_)
       exact go_l ⟨(eJ @hq), eE, eE, eE, eE, rfl⟩
   rintro e h ⟨e33, e1, e5, e6, e7, rfl⟩
   refine go_keep [1, 5, 6, 7, 33] ?_
   (refine sJ5 @e1 @e5 @e6 @e7 @e33 ?_; try with_reducible exact True.intro)
   (intros; try refine go_st ?_); refine go_c ?_; (refine sI ?_; try with_reducible exact True.intro)
   refine gb (fun k6 => ?_) (fun k6 => ?_)
   · have k6 := of_decide_eq_true k6
     have hnl := (List.getElem?_eq_some_iff.1 k6).1
     have hwn := inc_i n d (by omega) hm
     rw [if_pos k6] at hsub
     (intros; try refine go_st ?_); refine go_r 34 36 (by decide) ?_; (refine sJ2 c17r8.eq_1 @hwn ?_; try with_reducible exact True.intro)
     (repeat first | (with_reducible intro _) | refine go_skip ?_ | refine go_b ?_)
     (intros; try refine go_st ?_); refine go_r 17 19 (by decide) ?_; (refine sJ2 c17r11.eq_1 @hw ?_; try with_reducible exact True.intro)
     (intros; try refine go_st ?_)
     refine go_l ⟨⟨t + 1, n + 1, ⟨by omega, by omega, .inr ⟨by omega, ?_⟩⟩, eE, eE, eE, eE, rfl⟩, ?_⟩
     · rcases hi with ⟨rfl, rfl⟩ | ⟨-, h5⟩
       · rw [hck hx, if_pos k6]
       · rw [h5, hsub]
     · (refine sI ?_; try with_reducible exact True.intro)
       omega
   · have k6 := of_decide_eq_false k6
     rw [if_neg k6] at hsub
     (intros; try refine go_st ?_); refine go_r 36 37 (by decide) ?_; (refine sJ c17r9.eq_1 ?_; try with_reducible exact True.intro)
     (intros; try refine go_st ?_); refine go_c ?_; (refine sI ?_; try with_reducible exact True.intro)
     refine gb (fun k7 => ?_) (fun k7 => ?_)
     · have k7 : t = 0 := by have := of_decide_eq_true k7; omega
       subst k7
       have hn0 : n = 0 := by
         rcases hi with h | h
         · exact h.2
         · omega
       subst hn0
       (intros; try refine go_st ?_); refine go_r 0 0 (by decide) ?_; (refine sJ c17r10.eq_1 ?_; try with_reducible exact True.intro)
       (intros; try refine go_st ?_)
       refine go_ret (retQ_v rfl ?_); simp only [push_cast, Nat.reduceBEq]
       rw [hchk, hck hx, if_neg k6]
       rfl
     · have k7 : ¬ t = 0 := by have := of_decide_eq_false k7; omega
       (repeat first | (with_reducible intro _) | refine go_skip ?_ | refine go_b ?_)
       (intros; try refine go_st ?_); refine go_r 17 19 (by decide) ?_; (refine sJ2 c17r11.eq_1 @hw ?_; try with_reducible exact True.intro)
       (intros; try refine go_st ?_)
       refine go_l ⟨⟨t + 1, n, ⟨by omega, hn, .inr ⟨by omega, ?_⟩⟩, eE, eE, eE, eE, rfl⟩, ?_⟩
       · rcases hi with ⟨h, -⟩ | ⟨-, h5⟩
         · exact absurd h k7
         · rw [h5, hsub]
       · (refine sI ?_; try with_reducible exact True.intro)
         omega
 · have htl : t = es.length := by have := of_decide_eq_false k5; omega
   subst htl
   rw [List.drop_length] at hi
   have h5 : chkI s l = if n < l.length then 1 else 0 := by
     rw [hchk]
     have h6 : chkE l es = decide (l.length ≤ n) := by
       rcases hi with ⟨h4, rfl⟩ | ⟨-, h5⟩
       · rw [List.eq_nil_of_length_eq_zero h4]
         cases l <;> rfl
       · rw [h5, subB_end]
     rw [h6]
     by_cases h : n < l.length
     · rw [if_pos h, if_neg (by simp; omega)]
     · rw [if_neg h, if_pos (by simp; omega)]
   refine go_exit ?_
   (refine sI ?_; try with_reducible exact True.intro)
   (repeat first | (with_reducible intro _) | refine go_skip ?_ | refine go_b ?_)
   (intros; try refine go_st ?_); refine go_r 38 41 (by decide) ?_; (refine sJ c17r12.eq_1 ?_; try with_reducible exact True.intro)
   (intros; try refine go_st ?_); refine go_c ?_; (refine sI ?_; try with_reducible exact True.intro)
   refine gb (fun k6 => ?_) (fun k6 => ?_)
   · have k6 := of_decide_eq_true k6
     rw [if_pos (by omega)] at h5
     (intros; try refine go_st ?_); refine go_r 0 0 (by decide) ?_; (refine sJ c17r13.eq_1 ?_; try with_reducible exact True.intro)
     (intros; try refine go_st ?_)
     refine go_ret (retQ_v rfl ?_); simp only [push_cast, Nat.reduceBEq]
     rw [h5]
   · have k6 := of_decide_eq_false k6
     rw [if_neg (by omega)] at h5
     (repeat first | (with_reducible intro _) | refine go_skip ?_ | refine go_b ?_)
     (intros; try refine go_st ?_); refine go_r 0 0 (by decide) ?_; (refine sJ c17r14.eq_1 ?_; try with_reducible exact True.intro)
     (intros; try refine go_st ?_)
     refine go_ret (retQ_v rfl ?_); simp only [push_cast, Nat.reduceBEq]
     rw [h5]
theorem F32 : Fun Try.prog 32 44 v32 c32 o32 := Fun.mk' Try.func32 Try.ntmps32 (by kernel_rfl) (by kernel_rfl) s32 q32
theorem F11 : Fun Try.prog 11 135 v11 c11 o11 := Fun.mkH Try.func11 Try.ntmps11 (by kernel_rfl) (by kernel_rfl) s11 q11
def TwoR (G' : Nat → Option Obj) (r : Value) : Prop := ∃ A c, r = .tuple #[.agg #[.int .i64 0, .slice A sgI.bytes.length c], .bool true] ∧ SB G' (.slice A sgI.bytes.length c) sgI.bytes
theorem two_ok (G : Nat → Option Obj) : FnD Try.prog 32 #[] G TwoR := by
 refine F32.fnD (by simp) (go_of ?_)
 unfold c32
 (intros; try refine go_st ?_); refine go_r 0 0 (by decide) ?_; (refine sJ c32r0.eq_1 ?_; try with_reducible exact True.intro)
 (intros; try refine go_st ?_); refine go_r 10 14 (by decide) ?_; (refine sJ c32r1.eq_1 ?_; try with_reducible exact True.intro)
 refine (ownSE_d (New_ok 0 G) _ _).mono ?_
 rintro r h' ⟨G1, rfl, hg1, A1, c1, rfl, hs1⟩
 have hn : newS 0 = (⟨0, []⟩, 0) := rfl
 rw [hn] at hs1 ⊢
 dsimp only at hs1 ⊢
 (refine sI ?_; try with_reducible exact True.intro)
 (intros; try refine go_st ?_); refine go_r 14 18 (by decide) ?_; (refine sJ c32r2.eq_1 ?_; try with_reducible exact True.intro)
 intro b hb
 (refine sI ?_; try with_reducible exact True.intro)
 intro _
 (repeat (with_reducible intro _)); try refine go_seq ?_
 have hra : Cells RR 5 laI.recs [.int .i64 0, .string ⟨#[]⟩, .string ⟨#[120]⟩, .bool false, .int .i64 5, .int .i64 1, .string ⟨#[]⟩, .string ⟨#[121]⟩, .bool false, .int .i64 7] :=
   .cons (cs := [_, _, _, _, _]) ⟨rfl, ⟨by decide, by decide⟩, by decide, by decide⟩ rfl (.one ⟨rfl, ⟨by decide, by decide⟩, by decide, by decide⟩ rfl)
 refine go_gx (gx_slv_at [_] _ (by decide) hra) ?_
 rintro h' ⟨G2, rfl, hg2, A2, c2, hA2, hc2, hm2, hs2⟩
 cases hA2
 have hbeA : BE G2 laI (cellH laI (.slice (some ⟨b, 0, none⟩) 2 2)) := ⟨_, _, rfl, ⟨hc2, hm2, hs2⟩, by decide, by decide, by decide, by decide, by decide, by decide, by decide, by decide⟩
 (intros; try refine go_st ?_); refine go_r 18 21 (by decide) ?_; (refine sJ c32r3.eq_1 ?_; try with_reducible exact True.intro)
 intro b3 hb3
 (refine sI ?_; try with_reducible exact True.intro)
 intro _
 (repeat (with_reducible intro _)); try refine go_seq ?_
 have hrb : Cells RR 5 lbI.recs [.int .i64 2, .string ⟨#[]⟩, .string ⟨#[122]⟩, .bool false, .int .i64 6] := .one ⟨rfl, ⟨by decide, by decide⟩, by decide, by decide⟩ rfl
 refine go_gx (gx_slv_at [_] _ (by decide) hrb) ?_
 rintro h' ⟨G3, rfl, hg3, A3, c3, hA3, hc3, hm3, hs3⟩
 cases hA3
 have hbeB : BE G3 lbI (cellH lbI (.slice (some ⟨b3, 0, none⟩) 1 1)) := ⟨_, _, rfl, ⟨hc3, hm3, hs3⟩, by decide, by decide, by decide, by decide, by decide, by decide, by decide, by decide⟩
 have hse1 : SE G3 ⟨0, []⟩ [.int .i64 0, .slice A1 0 c1] := ⟨A1, c1, rfl, SB.le hs1 (hg2.trans hg3), by decide⟩
 have ha := ownSE_d (Append_ok ⟨0, []⟩ laI 1000 _ _ G3 hse1 (by simp) (BE.le hg3 hbeA) (by decide))
 rw [app_aI] at ha
 have hcA : cellH laI (.slice (some ⟨b, 0, none⟩) 2 2) = [.int .i64 0, .int .i64 1, .int .i64 0, .int .i64 0, .int .i64 (-1), .int .i64 0, .int .i64 0, .bool false, .int .i64 0, .slice (some ⟨b, 0, none⟩) 2 2] := rfl
 have hcB : cellH lbI (.slice (some ⟨b3, 0, none⟩) 1 1) = [.int .i64 2, .int .i64 2, .int .i64 2, .int .i64 0, .int .i64 (-1), .int .i64 0, .int .i64 0, .bool false, .int .i64 0, .slice (some ⟨b3, 0, none⟩) 1 1] := rfl
 rw [hcA] at ha
 (intros; try refine go_st ?_); refine go_r 21 27 (by decide) ?_; (refine sJ c32r4.eq_1 ?_; try with_reducible exact True.intro)
 refine (ha _ _).mono ?_
 rintro r h' ⟨G4, rfl, hg4, A4, c4, rfl, hs4⟩
 dsimp only at hs4 ⊢
 have hse2 : SE G4 ⟨0, bytesB laI⟩ [.int .i64 0, .slice A4 (bytesB laI).length c4] := ⟨A4, c4, rfl, hs4, by decide⟩
 have hb := ownSE_d (Append_ok ⟨0, bytesB laI⟩ lbI 1000 _ _ G4 hse2 (by simp [laI_len]) (BE.le hg4 hbeB) (by decide))
 rw [app_bI, hcB] at hb
 (refine sI ?_; try with_reducible exact True.intro)
 (intros; try refine go_st ?_); refine go_r 27 33 (by decide) ?_; (refine sJ c32r5.eq_1 ?_; try with_reducible exact True.intro)
 refine (hb _ _).mono ?_
 rintro r h' ⟨G5, rfl, hg5, A5, c5, rfl, hs5⟩
 dsimp only at hs5 ⊢
 (refine sI ?_; try with_reducible exact True.intro)
 (intros; try refine go_st ?_); refine go_r 33 44 (by decide) ?_; (refine sJ c32r6.eq_1 ?_; try with_reducible exact True.intro)
 (intros; try refine go_st ?_)
 refine go_ret (retQ_v rfl ?_); simp only [push_cast, Nat.reduceBEq]
 exact ⟨A5, c5, rfl, hs5⟩
theorem live_ok (G : Nat → Option Obj) : FnS Try.prog 11 #[] G (.bool true) := by
 refine F11.fnS (by simp) (go_of ?_)
 unfold c11
 (intros; try refine go_st ?_); refine go_r 0 0 (by decide) ?_; (refine sJ c11r0.eq_1 ?_; try with_reducible exact True.intro)
 (intros; try refine go_st ?_); refine go_r 11 15 (by decide) ?_; (refine sJ c11r1.eq_1 ?_; try with_reducible exact True.intro)
 refine (two_ok G _ _).mono ?_
 rintro r h' ⟨G1, rfl, hg1, A1, c1, rfl, hs1⟩
 have hse : ∀ G', Gle G1 G' → SE G' sgI [.int .i64 0, .slice A1 sgI.bytes.length c1] := fun G' hg => ⟨A1, c1, rfl, SB.le hs1 hg, by decide⟩
 (refine sI ?_; try with_reducible exact True.intro)
 have hm := Make_ok sgI 1 _ G1 (hse G1 (.refl _))
 unfold MakeR at hm
 rw [make_I] at hm
 (intros; try refine go_st ?_); refine go_r 15 20 (by decide) ?_; (refine sJ c11r2.eq_1 ?_; try with_reducible exact True.intro)
 refine (hm _ _).mono ?_
 rintro r h' ⟨G2, L', rfl, hg2, u, zc, rfl, hzc, rfl⟩
 dsimp only
 (refine sI ?_; try with_reducible exact True.intro)
 (repeat (with_reducible intro _)); try refine go_seq ?_
 refine go_gx (gx_slv_at [] _ (by decide) hzc) ?_
 rintro h' ⟨G3, rfl, hg3, hv⟩
 have hv0 := hv
 obtain ⟨A3, c3, rfl, hc3, hm3, hA3⟩ := hv
 have hg13 := hg2.trans hg3
 have hz0 : ((2 : Nat) : Int) = 2 := rfl
 have hne : decide ((0 : Int) + 1 + 1 ≠ 2) = false := by decide
 have h00 : decide ((0 : Int) ≠ 0) = false := by decide
 (intros; try refine go_st ?_); refine go_r 20 30 (by decide) ?_; (refine sJ3 c11r3.eq_1 @hne @h00 ?_; try with_reducible exact True.intro)
 (intros; try refine go_st ?_); refine go_c ?_; (refine sI ?_; try with_reducible exact True.intro)
 (repeat first | (with_reducible intro _) | refine go_skip ?_ | refine go_b ?_)
 have hsi := SinceI_ok sgI _ 6 _ _ G3 (hse G3 hg13) hv0
 rw [since_6] at hsi
 have hsi8 := SinceI_ok sgI _ 8 _ _ G3 (hse G3 hg13) hv0
 rw [since_8] at hsi8
 have hfi := FindI_ok sgI _ 2 _ _ G3 (hse G3 hg13) hv0
 unfold FindR at hfi
 rw [find_2] at hfi
 (intros; try refine go_st ?_); refine go_r 31 37 (by decide) ?_; (refine sJ c11r5.eq_1 ?_; try with_reducible exact True.intro)
 refine (hsi _ _).mono ?_; rintro _ _ ⟨rfl, rfl⟩; (refine sI ?_; try with_reducible exact True.intro)
 (intros; try refine go_st ?_); refine go_r 37 43 (by decide) ?_; (refine sJ c11r6.eq_1 ?_; try with_reducible exact True.intro)
 refine (hsi8 _ _).mono ?_; rintro _ _ ⟨rfl, rfl⟩; (refine sI ?_; try with_reducible exact True.intro)
 (intros; try refine go_st ?_); refine go_r 43 49 (by decide) ?_; (refine sJ c11r7.eq_1 ?_; try with_reducible exact True.intro)
 refine (hfi _ _).mono ?_
 rintro r h' ⟨G4, rfl, hg4, cs, rfl, hbe⟩
 obtain ⟨B, d, rfl, -⟩ := hbe
 unfold cellH
 have hg34 := hg13.trans hg4
 have hv4 := hv0.le hg4 fun _ _ h => h
 have hA4 := hA3.le hg4 fun _ _ h => h
 have hck := CheckI_ok sgI _ _ _ G4 (hse G4 hg34) hv4
 rw [chk_I] at hck
 have hck0 := CheckI_ok sgI [] _ (.slice none 0 0) G4 (hse G4 hg34) .nil
 rw [chk_I0] at hck0
 have hf1 := Floor_ok _ 1 _ G4 hv4
 have hf2 := Floor_ok _ 2 _ G4 hv4
 have hw8 := When_ok _ 8 _ G4 hv4
 have hw7 := When_ok _ 7 _ G4 hv4
 rw [show lastE (offP 1) [⟨0, 0, 7⟩, ⟨2, 30, 7⟩] = 0 from by decide] at hf1
 rw [show lastE (offP 2) [⟨0, 0, 7⟩, ⟨2, 30, 7⟩] = 30 from by decide] at hf2
 rw [show lastE (stP 8) [⟨0, 0, 7⟩, ⟨2, 30, 7⟩] = 30 from by decide] at hw8
 rw [show lastE (stP 7) [⟨0, 0, 7⟩, ⟨2, 30, 7⟩] = 0 from by decide] at hw7
 (repeat first | (with_reducible intro _) | refine go_skip ?_ | refine go_b ?_)
 (refine sI ?_; try with_reducible exact True.intro)
 (repeat first | (with_reducible intro _) | refine go_skip ?_ | refine go_b ?_)
 (intros; try refine go_st ?_); refine go_x _ (List.Sublist.refl _) (by decide) ?_; (refine sJ c11r8.eq_1 ?_; try with_reducible exact True.intro)
 refine hA4.y_ld (k := 0) (x := ⟨0, 0, 7⟩) rfl rfl rfl ?_
 rintro a1 ha1 cs hcs
 cases (show cs = cellE ⟨0, 0, 7⟩ from hcs)
 unfold cellE
 have hlb : lbI.base = 2 := rfl
 have hp3 : decide ((0 : Int) < 30) = true := by decide
 (refine sI ?_; try with_reducible exact True.intro)
 refine hA4.y_lf (k := 1) (x := ⟨2, 30, 7⟩) (u := .int .i64 2) rfl rfl rfl (fun cs h => by cases (show cs = cellE ⟨2, 30, 7⟩ from h); rfl) fun a2 ha2 => ?_
 (refine sI ?_; try with_reducible exact True.intro)
 refine hA4.y_lf (k := 1) (x := ⟨2, 30, 7⟩) (u := .int .i64 30) rfl rfl rfl (fun cs h => by cases (show cs = cellE ⟨2, 30, 7⟩ from h); rfl) fun a3 ha3 => ?_
 (refine sJ @hp3 ?_; try with_reducible exact True.intro)
 refine hA4.y_lf (k := 1) (x := ⟨2, 30, 7⟩) (u := .int .i64 7) rfl rfl rfl (fun cs h => by cases (show cs = cellE ⟨2, 30, 7⟩ from h); rfl) fun a4 ha4 => ?_
 (refine sJ @hlb ?_; try with_reducible exact True.intro)
 refine (hck _ _).mono ?_; rintro _ _ ⟨rfl, rfl⟩; (refine sI ?_; try with_reducible exact True.intro)
 refine (hck0 _ _).mono ?_; rintro _ _ ⟨rfl, rfl⟩; (refine sI ?_; try with_reducible exact True.intro)
 refine (hf1 _ _).mono ?_; rintro _ _ ⟨rfl, rfl⟩; (refine sI ?_; try with_reducible exact True.intro)
 refine hA4.y_lf (k := 1) (x := ⟨2, 30, 7⟩) (u := .int .i64 30) rfl rfl rfl (fun cs h => by cases (show cs = cellE ⟨2, 30, 7⟩ from h); rfl) fun a5 ha5 => ?_
 (refine sI ?_; try with_reducible exact True.intro)
 refine (hf2 _ _).mono ?_; rintro _ _ ⟨rfl, rfl⟩; (refine sI ?_; try with_reducible exact True.intro)
 refine hA4.y_lf (k := 1) (x := ⟨2, 30, 7⟩) (u := .int .i64 30) rfl rfl rfl (fun cs h => by cases (show cs = cellE ⟨2, 30, 7⟩ from h); rfl) fun a6 ha6 => ?_
 (refine sI ?_; try with_reducible exact True.intro)
 refine (hw8 _ _).mono ?_; rintro _ _ ⟨rfl, rfl⟩; (refine sI ?_; try with_reducible exact True.intro)
 refine (hw7 _ _).mono ?_; rintro _ _ ⟨rfl, rfl⟩; (refine sI ?_; try with_reducible exact True.intro)
 (intros; try refine go_st ?_)
 refine go_ret (retQ_v rfl ?_); simp only [push_cast, Nat.reduceBEq]
theorem F3 : Fun Try.prog 3 54 v3 c3 o3 := Fun.mk' Try.func3 Try.ntmps3 (by kernel_rfl) (by kernel_rfl) s3 q3
theorem IndexMakes_ok (s : Sg) (every : Int) (l : List En) (cs : List Value) (v : Value) (G : Nat → Option Obj) (hs : SE G s cs) (he : I64 every) (hv : SlV G EnE 3 v l) : FnS Try.prog 3 #[.agg cs.toArray, .int .i64 every, v] G (.bool true) := by
 have hs0 := hs
 have hv0 := hv
 obtain ⟨A, c, rfl, hl, hib⟩ := hs
 obtain ⟨B, d, rfl, hd, hm, hB⟩ := hv
 refine F3.fnS (by simp) (go_of ?_)
 unfold c3
 unfold cellS at hs0 ⊢
 have hfew := few_ok s _ B l.length d G hs0
 (intros; try refine go_st ?_); refine go_r 0 0 (by decide) ?_; (refine sJ c3r0.eq_1 ?_; try with_reducible exact True.intro)
 (intros; try refine go_st ?_); refine go_r 13 14 (by decide) ?_; (refine sJ c3r1.eq_1 ?_; try with_reducible exact True.intro)
 refine (live_ok _ _ _).mono ?_; rintro _ _ ⟨rfl, rfl⟩; (refine sI ?_; try with_reducible exact True.intro)
 (intros; try refine go_st ?_); refine go_r 14 15 (by decide) ?_; (refine sJ c3r2.eq_1 ?_; try with_reducible exact True.intro)
 (intros; try refine go_st ?_); refine go_c ?_; (refine sI ?_; try with_reducible exact True.intro)
 (repeat first | (with_reducible intro _) | refine go_skip ?_ | refine go_b ?_)
 (intros; try refine go_st ?_); refine go_r 16 19 (by decide) ?_; (refine sJ c3r4.eq_1 ?_; try with_reducible exact True.intro)
 refine (hfew _ _).mono ?_; rintro _ _ ⟨rfl, rfl⟩; (refine sI ?_; try with_reducible exact True.intro)
 (intros; try refine go_st ?_); refine go_c ?_; (refine sI ?_; try with_reducible exact True.intro)
 refine gb (fun k1 => ?_) (fun k1 => ?_)
 · (intros; try refine go_st ?_); refine go_r 20 21 (by decide) ?_; (refine sJ c3r5.eq_1 ?_; try with_reducible exact True.intro)
   (intros; try refine go_st ?_)
   refine go_ret (retQ_v rfl ?_); simp only [push_cast, Nat.reduceBEq]
 (repeat first | (with_reducible intro _) | refine go_skip ?_ | refine go_b ?_)
 (intros; try refine go_st ?_); refine go_r 21 27 (by decide) ?_; (refine sJ c3r6.eq_1 ?_; try with_reducible exact True.intro)
 refine (Make_ok s every _ G hs0 _ _).mono ?_
 rintro r h' ⟨G1, L', rfl, hg1, u, zc, rfl, hzc, rfl⟩
 (refine sI ?_; try with_reducible exact True.intro)
 (repeat (with_reducible intro _)); try refine go_seq ?_
 refine go_gx (gx_slv_at [] _ (by decide) hzc) ?_
 rintro h' ⟨G2, rfl, hg2, hv2⟩
 have hg02 := hg1.trans hg2
 (intros; try refine go_st ?_); refine go_r 27 33 (by decide) ?_; (refine sJ c3r7.eq_1 ?_; try with_reducible exact True.intro)
 refine (RMake_ok s every _ G2 (SE.le hg02 hs0) _ _).mono ?_
 rintro r h' ⟨G3, L', rfl, hg3, w, zc2, rfl, hzc2, rfl⟩
 (refine sI ?_; try with_reducible exact True.intro)
 (repeat (with_reducible intro _)); try refine go_seq ?_
 refine go_gx (gx_slv_at [] _ (by decide) hzc2) ?_
 rintro h' ⟨G4, rfl, hg4, hv4⟩
 have hg24 := hg3.trans hg4
 have hg04 := hg02.trans hg24
 have hv24 := hv2.le hg24 fun _ _ h => h
 have hv04 := hv0.le hg04 fun _ _ h => h
 have hs4 := SE.le hg04 hs0
 have hck := CheckI_ok s l _ _ G4 hs4 hv04
 have hrc := RCheckI_ok s l _ _ G4 hs4 hv04
 have hes := RESame_ok _ _ _ _ G4 hv24 hv4
 rw [decide_eq_true rfl] at hes
 obtain ⟨A2, c2, rfl, -⟩ := hv24
 obtain ⟨A4, c4, rfl, -⟩ := hv4
 (intros; try refine go_st ?_); refine go_r 33 36 (by decide) ?_; (refine sJ c3r8.eq_1 ?_; try with_reducible exact True.intro)
 refine (hes _ _).mono ?_; rintro _ _ ⟨rfl, rfl⟩; (refine sI ?_; try with_reducible exact True.intro)
 generalize chkI s l = x1 at hck hrc
 generalize (makeS s every).2 = x2
 (intros; try refine go_st ?_); refine go_x _ (List.Sublist.refl _) (by decide) ?_; (refine sJ c3r9.eq_1 ?_; try with_reducible exact True.intro)
 refine (hck _ _).mono ?_; rintro _ _ ⟨rfl, rfl⟩; (refine sI ?_; try with_reducible exact True.intro)
 refine (hrc _ _).mono ?_; rintro _ _ ⟨rfl, rfl⟩; (refine sI ?_; try with_reducible exact True.intro)
 (intros; try refine go_st ?_)
 refine go_ret (retQ_v rfl ?_); simp only [push_cast, Nat.reduceBEq]
end Go.Proofs.Ytedljandnpigpaa

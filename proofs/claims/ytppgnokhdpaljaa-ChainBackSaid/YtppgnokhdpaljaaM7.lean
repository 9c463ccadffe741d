/- Parts of a proof, 13 texts in one file. No condition. -/
import Derived.Test.YtppgnokhdpaljaaM1
import Derived.Test.YtppgnokhdpaljaaM2
import Derived.Test.YtppgnokhdpaljaaM3
import Derived.Test.YtppgnokhdpaljaaM4
import Derived.Test.YtppgnokhdpaljaaM5
import Derived.Test.YtppgnokhdpaljaaM6
set_option linter.unusedSimpArgs false
set_option linter.unusedVariables false
namespace Go.Proofs.Ytppgnokhdpaljaa
open Go Go.Kx
theorem F48 : Fun Try.prog 48 9 v48 c48 o48 := Fun.mk' Try.func48 Try.ntmps48 (by kernel_rfl) (by kernel_rfl) s48 q48
theorem F33 : Fun Try.prog 33 15 v33 c33 o33 := Fun.mk' Try.func33 Try.ntmps33 (by kernel_rfl) (by kernel_rfl) s33 q33
theorem F34 : Fun Try.prog 34 20 v34 c34 o34 := Fun.mk' Try.func34 Try.ntmps34 (by kernel_rfl) (by kernel_rfl) s34 q34
theorem F35 : Fun Try.prog 35 17 v35 c35 o35 := Fun.mk' Try.func35 Try.ntmps35 (by kernel_rfl) (by kernel_rfl) s35 q35
theorem F42 : Fun Try.prog 42 7 v42 c42 o42 := Fun.mk' Try.func42 Try.ntmps42 (by kernel_rfl) (by kernel_rfl) s42 q42
theorem F36 : Fun Try.prog 36 13 v36 c36 o36 := Fun.mk' Try.func36 Try.ntmps36 (by kernel_rfl) (by kernel_rfl) s36 q36
theorem F40 : Fun Try.prog 40 15 v40 c40 o40 := Fun.mk' Try.func40 Try.ntmps40 (by kernel_rfl) (by kernel_rfl) s40 q40
theorem F13 : Fun Try.prog 13 56 v13 c13 o13 := Fun.mk' Try.func13 Try.ntmps13 (by kernel_rfl) (by kernel_rfl) s13 q13
theorem F14 : Fun Try.prog 14 8 v14 c14 o14 := Fun.mk' Try.func14 Try.ntmps14 (by kernel_rfl) (by kernel_rfl) s14 q14
def cellL (l : Lg) (A : Option Addr) (c : Nat) : List Value := [.int .i64 l.limit, .int .i64 l.start, .slice A l.segs.length c]
def LE (G : Nat → Option Obj) (l : Lg) (cs : List Value) : Prop := ∃ A c, cs = cellL l A c ∧ SlV G (SE G) 2 (.slice A l.segs.length c) l.segs ∧ I64 l.limit ∧ I64 l.start
def smL (l : List Sg) : Prop := ∀ s ∈ l, s.bytes.length ≤ 100000
theorem SlSE.le {G G' : Nat → Option Obj} (hg : Gle G G') {v : Value} {l : List Sg} (h : SlV G (SE G) 2 v l) : SlV G' (SE G') 2 v l := by
 obtain ⟨A, c, h1, h2, h3, h4⟩ := h
 exact ⟨A, c, h1, h2, h3, h4.le hg fun _ _ h => SE.le hg h⟩
theorem LE.le {G G' : Nat → Option Obj} (hg : Gle G G') {l : Lg} {cs : List Value} (h : LE G l cs) : LE G' l cs := by
 obtain ⟨A, c, h1, h2, h3⟩ := h
 exact ⟨A, c, h1, SlSE.le hg h2, h3⟩
theorem offset_ok (n : Int) (G : Nat → Option Obj) : FnS Try.prog 48 #[.int .i64 n] G (.bool (inO n)) := by
 refine F48.fnS (by simp) (go_of ?_)
 unfold c48
 (intros; try refine go_st ?_); refine go_r 0 0 (by decide) ?_; (refine sJ c48r0.eq_1 ?_; try with_reducible exact True.intro)
 (intros; try refine go_st ?_); refine go_r 3 9 (by decide) ?_; (refine sJ c48r1.eq_1 ?_; try with_reducible exact True.intro)
 refine gd (fun h => ?_) (fun h => ?_)
 · have h := of_decide_eq_true h
   (refine sI ?_; try with_reducible exact True.intro)
   (intros; try refine go_st ?_)
   refine go_ret (retQ_v rfl ?_); simp only [push_cast, Nat.reduceBEq]
   rw [inO, decide_eq_true h, Bool.true_and]
 · have h := of_decide_eq_false h
   (refine sI ?_; try with_reducible exact True.intro)
   (intros; try refine go_st ?_)
   refine go_ret (retQ_v rfl ?_); simp only [push_cast, Nat.reduceBEq]
   rw [inO, decide_eq_false h, Bool.false_and]
theorem may_ok (a b : Int) (G : Nat → Option Obj) : FnS Try.prog 33 #[.int .i64 a, .int .i64 b] G (.bool (mayO a b)) := by
 refine F33.fnS (by simp) (go_of ?_)
 unfold c33
 (intros; try refine go_st ?_); refine go_r 0 0 (by decide) ?_; (refine sJ c33r0.eq_1 ?_; try with_reducible exact True.intro)
 (intros; try refine go_st ?_); refine go_r 5 15 (by decide) ?_; (refine sJ c33r1.eq_1 ?_; try with_reducible exact True.intro)
 refine gd (fun h => ?_) (fun h => ?_)
 · (refine sI ?_; try with_reducible exact True.intro)
   refine gd (fun h2 => ?_) (fun h2 => ?_)
   · (refine sI ?_; try with_reducible exact True.intro)
     refine (offset_ok _ _ _ _).mono ?_; rintro _ _ ⟨rfl, rfl⟩; (refine sI ?_; try with_reducible exact True.intro)
     (intros; try refine go_st ?_)
     refine go_ret (retQ_v rfl ?_); simp only [push_cast, Nat.reduceBEq]
     rw [mayO, h, h2, Bool.true_and, Bool.true_and]
   · (refine sI ?_; try with_reducible exact True.intro)
     (intros; try refine go_st ?_)
     refine go_ret (retQ_v rfl ?_); simp only [push_cast, Nat.reduceBEq]
     rw [mayO, h2, Bool.and_false, Bool.false_and]
 · (refine sI ?_; try with_reducible exact True.intro)
   (intros; try refine go_st ?_)
   refine go_ret (retQ_v rfl ?_); simp only [push_cast, Nat.reduceBEq]
   rw [mayO, h, Bool.false_and, Bool.false_and]
theorem whole_ok (s : Sg) (cs : List Value) (G : Nat → Option Obj) (hs : SE G s cs) (hb : s.bytes.length ≤ 1000000) : FnS Try.prog 34 #[.agg cs.toArray] G (.bool (wholeB s)) := by
 have hscan := Scan_ok s cs G hs hb
 obtain ⟨A, c, rfl, hl, hi⟩ := hs
 have hd : decide (((goodB s : Nat) : Int) = ((s.bytes.length : Nat) : Int)) = decide (goodB s = s.bytes.length) := decide_eq_decide.2 (by omega)
 refine F34.fnS (by simp) (go_of ?_)
 unfold c34
 unfold cellS at hscan ⊢
 (intros; try refine go_st ?_); refine go_r 0 0 (by decide) ?_; (refine sJ c34r0.eq_1 ?_; try with_reducible exact True.intro)
 (intros; try refine go_st ?_); refine go_r 5 10 (by decide) ?_; (refine sJ c34r1.eq_1 ?_; try with_reducible exact True.intro)
 refine (hscan _ _).mono ?_
 rintro r h' ⟨G1, L', rfl, hg1, u, zc, rfl, hzc, rfl⟩
 (refine sI ?_; try with_reducible exact True.intro)
 (intros; try refine go_st ?_); refine go_r 11 20 (by decide) ?_; (refine sJ c34r2.eq_1 ?_; try with_reducible exact True.intro)
 refine (offset_ok _ _ _ _).mono ?_; rintro _ _ ⟨rfl, rfl⟩; (refine sI ?_; try with_reducible exact True.intro)
 refine gd (fun k1 => ?_) (fun k1 => ?_)
 · (refine sJ @hd ?_; try with_reducible exact True.intro)
   (intros; try refine go_st ?_)
   refine go_ret (retQ_v rfl ?_); simp only [push_cast, Nat.reduceBEq]
   rw [wholeB, k1, Bool.true_and]
 · (refine sI ?_; try with_reducible exact True.intro)
   (intros; try refine go_st ?_)
   refine go_ret (retQ_v rfl ?_); simp only [push_cast, Nat.reduceBEq]
   rw [wholeB, k1, Bool.false_and]
theorem follows_ok (s t : Sg) (cs ds : List Value) (G : Nat → Option Obj) (hs : SE G s cs) (ht : SE G t ds) (hb : s.bytes.length ≤ 1000000) : FnS Try.prog 35 #[.agg cs.toArray, .agg ds.toArray] G (.bool (folB s t)) := by
 have hend := End_ok s cs G hs hb
 obtain ⟨A, c, rfl, hl, hi⟩ := hs
 obtain ⟨B, d, rfl, hm, hj⟩ := ht
 refine F35.fnS (by simp) (go_of ?_)
 unfold c35
 unfold cellS at hend ⊢
 (intros; try refine go_st ?_); refine go_r 0 0 (by decide) ?_; (refine sJ c35r0.eq_1 ?_; try with_reducible exact True.intro)
 (intros; try refine go_st ?_); refine go_x _ (List.Sublist.refl _) (by decide) ?_; (refine sJ c35r1.eq_1 ?_; try with_reducible exact True.intro)
 refine gx (fun k1 => ?_) (fun k1 => ?_)
 · (refine sI ?_; try with_reducible exact True.intro)
   refine (hend _ _).mono ?_; rintro _ _ ⟨rfl, rfl⟩; (refine sI ?_; try with_reducible exact True.intro)
   (intros; try refine go_st ?_)
   refine go_ret (retQ_v rfl ?_); simp only [push_cast, Nat.reduceBEq]
   rw [folB, k1, Bool.true_and]
 · (refine sI ?_; try with_reducible exact True.intro)
   (intros; try refine go_st ?_)
   refine go_ret (retQ_v rfl ?_); simp only [push_cast, Nat.reduceBEq]
   rw [folB, k1, Bool.false_and]
theorem last_ok (l : Lg) (A : Option Addr) (c : Nat) (G : Nat → Option Obj) (hl : l.segs.length ≤ 1000000) : FnS Try.prog 42 #[.agg #[.int .i64 l.limit, .int .i64 l.start, .slice A l.segs.length c]] G (.int .i64 ((l.segs.length : Int) - 1)) := by
 have hw : IntKind.i64.wrap ((l.segs.length : Int) - 1) = (l.segs.length : Int) - 1 := by rw [w64_id] <;> omega
 refine F42.fnS (by simp) (go_of ?_)
 unfold c42
 (intros; try refine go_st ?_); refine go_r 0 0 (by decide) ?_; (refine sJ c42r0.eq_1 ?_; try with_reducible exact True.intro)
 (intros; try refine go_st ?_); refine go_r 4 7 (by decide) ?_; (refine sJ2 c42r1.eq_1 @hw ?_; try with_reducible exact True.intro)
 (intros; try refine go_st ?_)
 refine go_ret (retQ_v rfl ?_); simp only [push_cast, Nat.reduceBEq]
theorem end_ok (l : Lg) (cs : List Value) (G : Nat → Option Obj) (hl : LE G l cs) (hb : smL l.segs) (hn : l.segs ≠ []) (hm : l.segs.length ≤ 1000000) : FnS Try.prog 36 #[.agg cs.toArray] G (.int .i64 (endL l)) := by
 obtain ⟨A, c, rfl, hsl, hi, hj⟩ := hl
 obtain ⟨A0, c0, he, hc, hmx, hA⟩ := hsl
 cases he
 obtain ⟨s, e1, e2, e3⟩ := last_split hn
 have h0 : 0 < l.segs.length := List.length_pos_iff.2 hn
 refine F36.fnS (by simp) (go_of ?_)
 unfold c36 cellL
 (intros; try refine go_st ?_); refine go_r 0 0 (by decide) ?_; (refine sJ c36r0.eq_1 ?_; try with_reducible exact True.intro)
 (intros; try refine go_st ?_); refine go_x _ (List.Sublist.refl _) (by decide) ?_; (refine sJ c36r1.eq_1 ?_; try with_reducible exact True.intro)
 refine (last_ok l A c _ hm _ _).mono ?_; rintro _ _ ⟨rfl, rfl⟩; (refine sI ?_; try with_reducible exact True.intro)
 refine hA.y_ld e1 (by omega) rfl ?_
 rintro a1 ha1 cs hse
 have hend := End_ok s cs G hse (by have := hb s (List.mem_of_getElem? e1); omega)
 obtain ⟨B, d, rfl, -⟩ := hse
 unfold cellS at hend ⊢
 (refine sI ?_; try with_reducible exact True.intro)
 refine (hend _ _).mono ?_; rintro _ _ ⟨rfl, rfl⟩; (refine sI ?_; try with_reducible exact True.intro)
 (intros; try refine go_st ?_)
 refine go_ret (retQ_v rfl ?_); simp only [push_cast, Nat.reduceBEq]
 rw [endL, e3]
 rfl
theorem between_ok (l : Lg) (off : Int) (cs : List Value) (G : Nat → Option Obj) (hl : LE G l cs) (hb : smL l.segs) (hn : l.segs ≠ []) (hm : l.segs.length ≤ 1000000) : FnS Try.prog 40 #[.agg cs.toArray, .int .i64 off] G (.bool (betw l off)) := by
 have hend := end_ok l cs G hl hb hn hm
 obtain ⟨A, c, rfl, hsl, hi, hj⟩ := hl
 refine F40.fnS (by simp) (go_of ?_)
 unfold c40
 unfold cellL at hend ⊢
 (intros; try refine go_st ?_); refine go_r 0 0 (by decide) ?_; (refine sJ c40r0.eq_1 ?_; try with_reducible exact True.intro)
 (intros; try refine go_st ?_); refine go_r 6 15 (by decide) ?_; (refine sJ c40r1.eq_1 ?_; try with_reducible exact True.intro)
 refine gd (fun k1 => ?_) (fun k1 => ?_)
 · (refine sI ?_; try with_reducible exact True.intro)
   refine (hend _ _).mono ?_; rintro _ _ ⟨rfl, rfl⟩; (refine sI ?_; try with_reducible exact True.intro)
   (intros; try refine go_st ?_)
   refine go_ret (retQ_v rfl ?_); simp only [push_cast, Nat.reduceBEq]
   rw [betw, k1, Bool.true_and]
 · (refine sI ?_; try with_reducible exact True.intro)
   (intros; try refine go_st ?_)
   refine go_ret (retQ_v rfl ?_); simp only [push_cast, Nat.reduceBEq]
   rw [betw, k1, Bool.false_and]
theorem endP_pred {l : List Sg} {k : Nat} {a : Sg} (hk : 0 < k) (h : l[k - 1]? = some a) : endP none (l.take k) = some a := by
 have := endP_take none h
 rwa [Nat.sub_add_cancel hk] at this
theorem chkL_no {l : Lg} {k : Nat} {s : Sg} (hs : l.segs[k]? = some s) (h : ¬ fitS l.limit (endP none (l.segs.take k)) s) : chkL l = 1 := by
 unfold chkL
 rw [if_neg]
 rintro ⟨-, -, h3⟩
 exact h ((okS_take hs).1 (okS_pre h3 (k + 1))).2
theorem ChkL_ok (l : Lg) (cs : List Value) (G : Nat → Option Obj) (hl : LE G l cs) (hb : smL l.segs) : FnS Try.prog 13 #[.agg cs.toArray] G (.int .i64 (chkL l)) := by
 obtain ⟨A, c, rfl, hsl, hi, hj⟩ := hl
 obtain ⟨A0, c0, he, hc, hmx, hA⟩ := hsl
 cases he
 refine F13.fnS (by simp) (go_of ?_)
 unfold c13 cellL
 (intros; try refine go_st ?_); refine go_r 0 0 (by decide) ?_; (refine sJ c13r0.eq_1 ?_; try with_reducible exact True.intro)
 (intros; try refine go_st ?_); refine go_r 6 16 (by decide) ?_; (refine sJ c13r1.eq_1 ?_; try with_reducible exact True.intro)
 refine (may_ok _ _ _ _ _).mono ?_; rintro _ _ ⟨rfl, rfl⟩; (refine sI ?_; try with_reducible exact True.intro)
 refine gd (fun k1 => ?_) (fun k1 => ?_)
 · have k1 : mayO l.limit l.start = false := by simpa using k1
   (refine sI ?_; try with_reducible exact True.intro)
   (intros; try refine go_st ?_); refine go_c ?_; (refine sI ?_; try with_reducible exact True.intro)
   (intros; try refine go_st ?_); refine go_r 0 0 (by decide) ?_; (refine sJ c13r2.eq_1 ?_; try with_reducible exact True.intro)
   (intros; try refine go_st ?_)
   refine go_ret (retQ_v rfl ?_); simp only [push_cast, Nat.reduceBEq]
   rw [chkL, if_neg (by rw [k1]; simp)]
 have k1 : mayO l.limit l.start = true := by simpa using k1
 (refine sI ?_; try with_reducible exact True.intro)
 (intros; try refine go_st ?_); refine go_c ?_; (refine sI ?_; try with_reducible exact True.intro)
 refine gb (fun k2 => ?_) (fun k2 => ?_)
 · have k2 : l.segs = [] := List.eq_nil_of_length_eq_zero (by have := of_decide_eq_true k2; omega)
   (intros; try refine go_st ?_); refine go_r 0 0 (by decide) ?_; (refine sJ c13r2.eq_1 ?_; try with_reducible exact True.intro)
   (intros; try refine go_st ?_)
   refine go_ret (retQ_v rfl ?_); simp only [push_cast, Nat.reduceBEq]
   rw [chkL, if_neg (by rw [k2]; simp)]
 have k2 : l.segs ≠ [] := fun h => by rw [h] at k2; simp at k2
 (repeat first | (with_reducible intro _) | refine go_skip ?_ | refine go_b ?_)
 (intros; try refine go_st ?_); refine go_r 0 0 (by decide) ?_; (refine sJ c13r3.eq_1 ?_; try with_reducible exact True.intro)
 (repeat (with_reducible intro _))
 refine go_cut (fun e h => okS l.limit none l.segs ∧ h = ⟨G, [.reg 1 [.int .i64 l.limit, .int .i64 l.start, .slice A l.segs.length c]], []⟩) ?_ ?_
 · (intros; try refine go_st ?_)
   refine go_loop (fun e h => ∃ k : Nat, (k ≤ l.segs.length ∧ okS l.limit none (l.segs.take k)) ∧ e 20 = .int .i64 k ∧ e 19 = .int .i64 l.segs.length ∧ e 18 = .slice A l.segs.length c ∧ h = ⟨G, [.reg 1 [.int .i64 l.limit, .int .i64 l.start, .slice A l.segs.length c]], []⟩) (fun e h => l.segs.length - iv (e 20)) ?_ ?_
   · exact ⟨0, ⟨Nat.zero_le _, trivial⟩, eE, eE, eE, rfl⟩
   rintro e h ⟨k, ⟨hk, hok⟩, e20, e19, e18, rfl⟩
   refine go_keep [18, 19, 20] ?_
   (refine sJ3 @e18 @e19 @e20 ?_; try with_reducible exact True.intro)
   (intros; try refine go_st ?_); refine go_r 0 0 (by decide) ?_; (refine sJ c13r4.eq_1 ?_; try with_reducible exact True.intro)
   (intros; try refine go_st ?_); refine go_c ?_; (refine sI ?_; try with_reducible exact True.intro)
   refine gb (fun ht => ?_) (fun ht => ?_)
   · have ht : k < l.segs.length := by have := of_decide_eq_true ht; omega
     have hw := inc_i k c (by omega) hmx
     obtain ⟨s, hs⟩ : ∃ s, l.segs[k]? = some s := ⟨l.segs[k], List.getElem?_eq_getElem (by omega)⟩
     have hbs := hb s (List.mem_of_getElem? hs)
     (repeat first | (with_reducible intro _) | refine go_skip ?_ | refine go_b ?_)
     (intros; try refine go_st ?_); refine go_r 22 25 (by decide) ?_; (refine sJ c13r5.eq_1 ?_; try with_reducible exact True.intro)
     refine hA.x_ld hs rfl rfl ?_
     rintro a1 ha1 cs hse
     have hse0 := hse
     have hwh := whole_ok s cs G hse (by omega)
     obtain ⟨B, d, rfl, hsb, hsi⟩ := hse
     unfold cellS at hwh hse0 ⊢
     (refine sI ?_; try with_reducible exact True.intro)
     have hno : ∀ (fr : List Td) (e : Env) (X : List Kx.Item), ¬ fitS l.limit (endP none (l.segs.take k)) s → go none Try.prog 56 v13.1 v13.2 (retQ o13 fun v h => v = .int .i64 (chkL l)) (Td.s ((SC.reg false c13r7).seq .ret) :: fr) e ⟨G, X, []⟩ := fun fr e X hn => by
       (intros; try refine go_st ?_); refine go_r 0 0 (by decide) ?_; (refine sJ c13r7.eq_1 ?_; try with_reducible exact True.intro)
       (intros; try refine go_st ?_)
       refine go_ret (retQ_v rfl ?_); simp only [push_cast, Nat.reduceBEq]
       rw [chkL_no hs hn]
     have hnx : fitS l.limit (endP none (l.segs.take k)) s → okS l.limit none (l.segs.take (k + 1)) := fun h => (okS_take hs).2 ⟨hok, h⟩
     (intros; try refine go_st ?_); refine go_x _ (List.Sublist.refl _) (by decide) ?_; (refine sJ c13r6.eq_1 ?_; try with_reducible exact True.intro)
     refine gx (fun k3 => ?_) (fun k3 => ?_)
     · have k3 := of_decide_eq_true k3
       (refine sI ?_; try with_reducible exact True.intro)
       (intros; try refine go_st ?_); refine go_c ?_; (refine sI ?_; try with_reducible exact True.intro)
       exact hno _ _ _ fun h => by have := h.1.2; omega
     have k3 := of_decide_eq_false k3
     (refine sI ?_; try with_reducible exact True.intro)
     refine (hwh _ _).mono ?_; rintro _ _ ⟨rfl, rfl⟩; (refine sI ?_; try with_reducible exact True.intro)
     refine gx (fun k4 => ?_) (fun k4 => ?_)
     · have k4 : wholeB s = false := by simpa using k4
       (refine sI ?_; try with_reducible exact True.intro)
       (intros; try refine go_st ?_); refine go_c ?_; (refine sI ?_; try with_reducible exact True.intro)
       exact hno _ _ _ fun h => by have := h.1.1; rw [k4] at this; cases this
     have k4 : wholeB s = true := by simpa using k4
     (refine sI ?_; try with_reducible exact True.intro)
     refine gx (fun k5 => ?_) (fun k5 => ?_)
     · have k5 : 0 < k := by have := of_decide_eq_true k5; omega
       have hw1 : IntKind.i64.wrap ((k : Int) - 1) = (k : Int) - 1 := by unfold maxLen at hmx; rw [w64_id] <;> omega
       obtain ⟨p, hp⟩ : ∃ p, l.segs[k - 1]? = some p := ⟨l.segs[k - 1], List.getElem?_eq_getElem (by omega)⟩
       have hbp := hb p (List.mem_of_getElem? hp)
       have hep := endP_pred k5 hp
       (refine sJ @hw1 ?_; try with_reducible exact True.intro)
       refine hA.y_ld hp (by omega) rfl ?_
       rintro a2 ha2 cs2 hpe
       have hfo := follows_ok p s cs2 _ G hpe hse0 (by omega)
       obtain ⟨B2, d2, rfl, -⟩ := hpe
       unfold cellS at hfo ⊢
       (refine sI ?_; try with_reducible exact True.intro)
       refine (hfo _ _).mono ?_; rintro _ _ ⟨rfl, rfl⟩; (refine sI ?_; try with_reducible exact True.intro)
       (intros; try refine go_st ?_); refine go_c ?_; (refine sI ?_; try with_reducible exact True.intro)
       refine gb (fun k6 => ?_) (fun k6 => ?_)
       · have k6 : folB p s = false := by simpa using k6
         exact hno _ _ _ fun h => by have := h.2 p hep; rw [k6] at this; cases this
       · have k6 : folB p s = true := by simpa using k6
         (repeat first | (with_reducible intro _) | refine go_skip ?_ | refine go_b ?_)
         refine go_ghost (ghost_sub (L' := [.reg 1 [.int .i64 l.limit, .int .i64 l.start, .slice A l.segs.length c]]) (.cons _ (List.Sublist.refl _))) ?_
         (intros; try refine go_st ?_); refine go_r 51 52 (by decide) ?_; (refine sJ2 c13r8.eq_1 @hw ?_; try with_reducible exact True.intro)
         (intros; try refine go_st ?_)
         refine go_l ⟨⟨k + 1, ⟨by omega, hnx ⟨⟨k4, by omega⟩, fun a ha => by rw [hep] at ha; cases ha; exact k6⟩⟩, eE, eE, eE, rfl⟩, ?_⟩
         (refine sI ?_; try with_reducible exact True.intro)
         omega
     · have k5 : k = 0 := by have := of_decide_eq_false k5; omega
       (refine sI ?_; try with_reducible exact True.intro)
       (intros; try refine go_st ?_); refine go_c ?_; (refine sI ?_; try with_reducible exact True.intro)
       refine go_ghost (ghost_sub (L' := [.reg 1 [.int .i64 l.limit, .int .i64 l.start, .slice A l.segs.length c]]) (.cons _ (List.Sublist.refl _))) ?_
       (intros; try refine go_st ?_); refine go_r 51 52 (by decide) ?_; (refine sJ2 c13r8.eq_1 @hw ?_; try with_reducible exact True.intro)
       (intros; try refine go_st ?_)
       refine go_l ⟨⟨k + 1, ⟨by omega, hnx ⟨⟨k4, by omega⟩, fun a ha => by rw [k5] at ha; cases ha⟩⟩, eE, eE, eE, rfl⟩, ?_⟩
       (refine sI ?_; try with_reducible exact True.intro)
       omega
   · have ht : k = l.segs.length := by have := of_decide_eq_false ht; omega
     subst ht
     rw [List.take_length] at hok
     refine go_exit ?_
     (refine sI ?_; try with_reducible exact True.intro)
     (repeat first | (with_reducible intro _) | refine go_skip ?_ | refine go_b ?_)
     exact go_l ⟨hok, rfl⟩
 rintro e h ⟨hok, rfl⟩
 refine go_keep [] ?_
 (repeat (with_reducible intro _))
 have hd : decide ((l.segs.length : Int) > 256) = decide (256 < l.segs.length) := decide_eq_decide.2 (by omega)
 (intros; try refine go_st ?_); refine go_r 53 55 (by decide) ?_; (refine sJ c13r9.eq_1 ?_; try with_reducible exact True.intro)
 (intros; try refine go_st ?_); refine go_c ?_; (refine sI ?_; try with_reducible exact True.intro)
 refine gb (fun k3 => ?_) (fun k3 => ?_)
 · have k3 := of_decide_eq_true k3
   (intros; try refine go_st ?_); refine go_r 0 0 (by decide) ?_; (refine sJ c13r10.eq_1 ?_; try with_reducible exact True.intro)
   (intros; try refine go_st ?_)
   refine go_ret (retQ_v rfl ?_); simp only [push_cast, Nat.reduceBEq]
   rw [chkL, if_pos ⟨k1, k2, hok⟩, if_pos (by omega)]
 · have k3 := of_decide_eq_false k3
   (repeat first | (with_reducible intro _) | refine go_skip ?_ | refine go_b ?_)
   (intros; try refine go_st ?_); refine go_r 0 0 (by decide) ?_; (refine sJ c13r11.eq_1 ?_; try with_reducible exact True.intro)
   (intros; try refine go_st ?_)
   refine go_ret (retQ_v rfl ?_); simp only [push_cast, Nat.reduceBEq]
   rw [chkL, if_pos ⟨k1, k2, hok⟩, if_neg (by omega)]
theorem CEnd_ok (l : Lg) (cs : List Value) (G : Nat → Option Obj) (hl : LE G l cs) (hb : smL l.segs) (hm : l.segs.length ≤ 1000000) : FnS Try.prog 14 #[.agg cs.toArray] G (.int .i64 (EndL l)) := by
 have hchk := ChkL_ok l cs G hl hb
 have hend := end_ok l cs G hl hb
 obtain ⟨A, c, rfl, hsl, hi, hj⟩ := hl
 refine F14.fnS (by simp) (go_of ?_)
 unfold c14
 unfold cellL at hchk hend ⊢
 (intros; try refine go_st ?_); refine go_r 0 0 (by decide) ?_; (refine sJ c14r0.eq_1 ?_; try with_reducible exact True.intro)
 (intros; try refine go_st ?_); refine go_r 3 5 (by decide) ?_; (refine sJ c14r1.eq_1 ?_; try with_reducible exact True.intro)
 refine (hchk _ _).mono ?_; rintro _ _ ⟨rfl, rfl⟩; (refine sI ?_; try with_reducible exact True.intro)
 (intros; try refine go_st ?_); refine go_c ?_; (refine sI ?_; try with_reducible exact True.intro)
 refine gb (fun k1 => ?_) (fun k1 => ?_)
 · have k1 := of_decide_eq_true k1
   (intros; try refine go_st ?_); refine go_r 0 0 (by decide) ?_; (refine sJ c14r2.eq_1 ?_; try with_reducible exact True.intro)
   (intros; try refine go_st ?_)
   refine go_ret (retQ_v rfl ?_); simp only [push_cast, Nat.reduceBEq]
   rw [EndL, if_neg k1]
 · have k1 : chkL l = 0 := by simpa using k1
   (repeat first | (with_reducible intro _) | refine go_skip ?_ | refine go_b ?_)
   (intros; try refine go_st ?_); refine go_r 6 8 (by decide) ?_; (refine sJ c14r3.eq_1 ?_; try with_reducible exact True.intro)
   refine (hend (chkL_0 k1).2.1 hm _ _).mono ?_; rintro _ _ ⟨rfl, rfl⟩; (refine sI ?_; try with_reducible exact True.intro)
   (intros; try refine go_st ?_)
   refine go_ret (retQ_v rfl ?_); simp only [push_cast, Nat.reduceBEq]
   rw [EndL, if_pos k1]
theorem F45 : Fun Try.prog 45 8 v45 c45 o45 := Fun.mk' Try.func45 Try.ntmps45 (by kernel_rfl) (by kernel_rfl) s45 q45
theorem F44 : Fun Try.prog 44 11 v44 c44 o44 := Fun.mk' Try.func44 Try.ntmps44 (by kernel_rfl) (by kernel_rfl) s44 q44
theorem F11 : Fun Try.prog 11 17 v11 c11 o11 := Fun.mk' Try.func11 Try.ntmps11 (by kernel_rfl) (by kernel_rfl) s11 q11
theorem F21 : Fun Try.prog 21 89 v21 c21 o21 := Fun.mk' Try.func21 Try.ntmps21 (by kernel_rfl) (by kernel_rfl) s21 q21
def LgR (p : Lg × Int) (G : Nat → Option Obj) (r : Value) : Prop := ∃ cs, r = .tuple #[.agg cs.toArray, .int .i64 p.2] ∧ LE G p.1 cs
theorem slN {α : Type} {G : Nat → Option Obj} {E : α → List Value → Prop} {sz : Nat} : SlV G E sz (.slice none 0 0) [] := ⟨none, 0, rfl, Nat.le_refl _, Nat.zero_le _, fun i x hx => by simp at hx⟩
theorem i64_0 : I64 0 := by unfold I64; decide
theorem noneL_r {p : Int} {G : Nat → Option Obj} : LgR (noneL, p) G (.tuple #[.agg #[.int .i64 0, .int .i64 0, .slice none 0 0], .int .i64 p]) := ⟨_, rfl, none, 0, rfl, slN, i64_0, i64_0⟩
theorem SE1 : ∀ {G : Nat → Option Obj} (x : Sg) cs, SE G x cs → ∀ u ∈ cs, u.oneCell' = true := fun x cs h u hu => by
 obtain ⟨A, c, rfl, -⟩ := h
 simp [cellS] at hu
 rcases hu with rfl | rfl <;> rfl
theorem CloneS_ok (l : List Sg) (v : Value) (G : Nat → Option Obj) (hl : SlV G (SE G) 2 v l) (hb : l.length ≤ 100000) : FnO Try.prog 45 #[v] G [] (fun _ L' r => OwnL (SE G) 53 2 l L' r) := by
 refine F45.fnO (by simp) noRegs_nil (go_of ?_)
 have hl0 := hl
 obtain ⟨A, c, rfl, hc, hm, hA⟩ := hl
 unfold c45
 (intros; try refine go_st ?_); refine go_r 0 0 (by decide) ?_; (refine sJ c45r0.eq_1 ?_; try with_reducible exact True.intro)
 (intros; try refine go_st ?_); refine go_r 3 4 (by decide) ?_; (refine sJ c45r1.eq_1 ?_; try with_reducible exact True.intro)
 (intros; try refine go_st ?_); refine go_c ?_; (refine sI ?_; try with_reducible exact True.intro)
 refine gb (fun ht => ?_) (fun ht => ?_)
 · (intros; try refine go_st ?_); refine go_r 0 0 (by decide) ?_; (refine sJ c45r2.eq_1 ?_; try with_reducible exact True.intro)
   (intros; try refine go_st ?_)
   have hA0 : l = [] := by
     match l, hA with
     | [], _ => rfl
     | x :: xs, hA => obtain ⟨a, _, ha, _⟩ := hA 0 x rfl; subst ha; cases ht
   subst hA0
   refine go_ghost (ghost_nil none 53 2) ?_
   refine go_ret (retQ_o _ rfl (List.Sublist.refl _) (noRegs_row noRegs_nil) ?_)
   exact ⟨[], .nil, rfl⟩
 · (repeat first | (with_reducible intro _) | refine go_skip ?_ | refine go_b ?_)
   (intros; try refine go_st ?_); refine go_r 5 8 (by decide) ?_; (refine sJ c45r3.eq_1 ?_; try with_reducible exact True.intro)
   intro b hb'
   refine apX_v (.inr ⟨⟨_, rfl⟩, rfl, rfl, rfl, rfl⟩) hl0 rfl SE1 ⟨by omega, by unfold maxLen; omega⟩ fun ys A c hc => ?_
   simp only [Nat.zero_add]
   (refine sI ?_; try with_reducible exact True.intro)
   (intros; try refine go_st ?_)
   refine go_ret (retQ_o _ rfl (List.Sublist.refl _) (noRegs_row noRegs_nil) ?_)
   exact ⟨ys, hc, rfl⟩
theorem ownN_sl {α : Type} {P : Program} {f : FuncId} {args : Array Value} {G : Nat → Option Obj} {E : α → List Value → Prop} {et sz : Nat} {zs : List α} (hf : FnO P f args G [] (fun _ L' r => OwnL E et sz zs L' r)) :
   FnO P f args G [] (fun _ L' r => ∃ A c ys, r = .slice A zs.length c ∧ (zs.length ≤ c ∧ c ≤ maxLen) ∧ Cells E sz zs ys ∧ L' = [.row r et sz zs.length ys]) := fun L D =>
 (hf L D).gx fun v h' ⟨G', L', he, hg, ys, hc, hL⟩ => by
   subst he hL
   exact (gx_knowS (.head _)).mono fun h' ⟨h1, A, c, h2, h3, h4⟩ => ⟨G', _, h1, hg, A, c, ys, h2, ⟨h3, h4⟩, hc, rfl⟩
theorem with_ok (a b : Int) (B C : Option Addr) (m d m' d' : Nat) (G : Nat → Option Obj) : FnS Try.prog 44 #[.agg #[.int .i64 a, .int .i64 b, .slice B m d], .slice C m' d'] G (.agg #[.int .i64 a, .int .i64 b, .slice C m' d']) := by
 refine F44.fnS (by simp) (go_of ?_)
 unfold c44
 (intros; try refine go_st ?_); refine go_r 0 0 (by decide) ?_; (refine sJ c44r0.eq_1 ?_; try with_reducible exact True.intro)
 (intros; try refine go_st ?_); refine go_r 6 11 (by decide) ?_; (refine sJ c44r1.eq_1 ?_; try with_reducible exact True.intro)
 (intros; try refine go_st ?_)
 refine go_ret (retQ_v rfl ?_); simp only [push_cast, Nat.reduceBEq]
theorem sl_i {G : Nat → Option Obj} {A : Option Addr} {l : List Sg} (h : SlA G (SE G) 2 A l) : ∀ s ∈ l, I64 s.base := fun s hs => by
 obtain ⟨i, hi⟩ := List.mem_iff_getElem?.1 hs
 obtain ⟨a, cs, _, _, ⟨_, _, _, _, h⟩, _⟩ := h i s hi
 exact h
theorem app2 {α : Type} {E : α → List Value → Prop} {P : Program} {h : H} {d sz et nb : Nat} {l : List SI} {e : Env} {K : Env → H → Prop} {u : Value} {b : Nat} {zs : List α} {zc cs : List Value} {L2 : List Kx.Item} {x : α} (hL : h.L = .row u et sz zs.length zc :: .row (.slice (some ⟨b, 0, none⟩) 1 1) et sz 1 cs :: L2)
   (hE : E x cs) (hl : cs.length = sz) (h1 : ∀ u ∈ cs, u.oneCell' = true) (hc : Cells E sz zs zc) (hz : zs.length ≤ 1000000) (hnb : nb ≤ 1000)
   (hk : ∀ A' c' zc', Cells E sz (zs ++ [x]) zc' → kR P l d e K (.slice A' (zs ++ [x]).length c') ⟨h.G, .row (.slice A' (zs ++ [x]).length c') et sz (zs ++ [x]).length zc' :: .row (.slice (some ⟨b, 0, none⟩) 1 1) et sz 1 cs :: L2, h.D⟩) :
   apX P u (.slice (some ⟨b, 0, none⟩) 1 1) et sz nb d l e h K := by
 refine ⟨[], zs.length, zc, .row (.slice (some ⟨b, 0, none⟩) 1 1) et sz 1 cs :: L2, 1, cs, .inl hL, srcH_row (h := h) (by rw [hL]; exact .tail _ (.head _)) h1 (by rw [hl, Nat.one_mul]), ⟨?_, by unfold maxLen; omega⟩, fun A' c' => ?_⟩
 · have : (zs.length + 1) * nb ≤ 1000001 * 1000 := Nat.mul_le_mul (by omega) hnb
   omega
 · have := hk A' c' (zc ++ cs) (hc.app (.one hE hl))
   simp only [List.length_append, List.length_cons, List.length_nil, Nat.zero_add] at this
   exact this
theorem calls_gx0 {P : Program} {f : FuncId} {args : Array Value} {h : H} {R : Value → H → Prop} {M : H → Prop} (hE : Enters P f) (hg : GhostX h M) (hc : ∀ h', M h' → CallsH P f args h' R) : CallsH P f args h R :=
 ⟨hE, fun β w hs => by
   obtain ⟨h', m, s1, t1, d1, r1⟩ := hg β w hs
   exact ((hc h' m).2 β w s1).mono fun _ _ ⟨v, h2, a, ⟨b1, b2⟩, c, d, r⟩ => ⟨v, h2, a, ⟨b1.trans d1, r1.trans b2⟩, c, t1.trans d, r⟩⟩
theorem i64_lim {a b : Int} (h : mayO a b = true) : I64 a ∧ I64 b := by
 have := mayO_iff.1 h
 have h2 := inO_iff.1 this.2
 constructor <;> (unfold I64; omega)
theorem CNew_ok (limit start : Int) (G : Nat → Option Obj) : FnD Try.prog 11 #[.int .i64 limit, .int .i64 start] G (LgR (newL limit start)) := by
 refine F11.fnD (by simp) (go_of ?_)
 unfold c11
 (intros; try refine go_st ?_); refine go_r 0 0 (by decide) ?_; (refine sJ c11r0.eq_1 ?_; try with_reducible exact True.intro)
 (intros; try refine go_st ?_); refine go_r 6 9 (by decide) ?_; (refine sJ c11r1.eq_1 ?_; try with_reducible exact True.intro)
 refine (may_ok _ _ _ _ _).mono ?_; rintro _ _ ⟨rfl, rfl⟩; (refine sI ?_; try with_reducible exact True.intro)
 (intros; try refine go_st ?_); refine go_c ?_; (refine sI ?_; try with_reducible exact True.intro)
 refine gb (fun h => ?_) (fun h => ?_)
 · have h : mayO limit start = false := by simpa using h
   (intros; try refine go_st ?_); refine go_r 10 11 (by decide) ?_; (refine sJ c11r2.eq_1 ?_; try with_reducible exact True.intro)
   (intros; try refine go_st ?_)
   refine go_ret (retQ_v rfl ?_); simp only [push_cast, Nat.reduceBEq]
   rw [newL, h]
   exact noneL_r
 · have h : mayO limit start = true := by simpa using h
   have hi := i64_lim h
   (repeat first | (with_reducible intro _) | refine go_skip ?_ | refine go_b ?_)
   (intros; try refine go_st ?_); refine go_r 11 17 (by decide) ?_; (refine sJ c11r3.eq_1 ?_; try with_reducible exact True.intro)
   intro b hb
   (refine sI ?_; try with_reducible exact True.intro)
   (repeat (with_reducible intro _)); try refine go_seq ?_
   refine go_gx (gx_slv_at [] _ (by decide) (Cells.one (E := SE G) (x := ⟨start, []⟩) ⟨none, 0, rfl, SB.nil, hi.2⟩ rfl)) ?_
   rintro h' ⟨G1, rfl, hg1, hv1⟩
   (intros; try refine go_st ?_)
   refine go_ret (retQ_v rfl ?_); simp only [push_cast, Nat.reduceBEq]
   rw [newL, if_pos h]
   exact ⟨_, rfl, _, 1, rfl, hv1.le (.refl _) fun _ _ h => SE.le hg1 h, hi.1, hi.2⟩
set_option maxHeartbeats 1000000 in
theorem CAppend_ok (l : Lg) (x : Batch) (cs ds : List Value) (G : Nat → Option Obj) (hl : LE G l cs) (hb : smL l.segs) (hm : l.segs.length ≤ 1000) (hx : BE G x ds) :
   FnD Try.prog 21 #[.agg cs.toArray, .agg ds.toArray] G (LgR (appL l x)) := by
 have hl0 := hl
 have hx0 := hx
 have hchk := ChkL_ok l cs G hl hb
 have hend := end_ok l cs G hl hb
 have hbc := BCheck_ok x ds G hx
 have hsz := Size_ok x ds G hx
 obtain ⟨A, c, rfl, hsl, hi, hj⟩ := hl
 obtain ⟨A0, c0, he, hc, hmx, hA⟩ := hsl
 cases he
 obtain ⟨B, d, rfl, -⟩ := hx
 refine F21.fnD (by simp) (go_of ?_)
 unfold c21
 unfold cellL at hchk hend hl0 ⊢
 unfold cellH at hbc hsz hx0 ⊢
 (intros; try refine go_st ?_); refine go_r 0 0 (by decide) ?_; (refine sJ c21r0.eq_1 ?_; try with_reducible exact True.intro)
 (intros; try refine go_st ?_); refine go_r 11 13 (by decide) ?_; (refine sJ c21r1.eq_1 ?_; try with_reducible exact True.intro)
 refine (hchk _ _).mono ?_; rintro _ _ ⟨rfl, rfl⟩; (refine sI ?_; try with_reducible exact True.intro)
 (intros; try refine go_st ?_); refine go_r 13 14 (by decide) ?_; (refine sJ c21r2.eq_1 ?_; try with_reducible exact True.intro)
 (repeat (with_reducible intro _))
 refine go_cut (fun e h => e 6 = .int .i64 (if chkL l = 0 then errB x else chkL l) ∧ h = ⟨G, [.reg 4 [.int .i64 0, .int .i64 0, .slice none 0 0], .reg 3 [.int .i64 x.base, .int .i64 x.last, .int .i64 x.src, .int .i64 x.epoch, .int .i64 x.pid, .int .i64 x.gen, .int .i64 x.seq, .bool x.txn, .int .i64 x.ctl, .slice B x.recs.length d], .reg 2 [.int .i64 l.limit, .int .i64 l.start, .slice A l.segs.length c]], []⟩) ?_ ?_
 · (intros; try refine go_st ?_); refine go_c ?_; (refine sI ?_; try with_reducible exact True.intro)
   refine gb (fun k1 => ?_) (fun k1 => ?_)
   · have k1 := of_decide_eq_true k1
     (intros; try refine go_st ?_); refine go_r 15 17 (by decide) ?_; (refine sJ c21r3.eq_1 ?_; try with_reducible exact True.intro)
     refine (hbc _ _).mono ?_; rintro _ _ ⟨rfl, rfl⟩; (refine sI ?_; try with_reducible exact True.intro)
     (intros; try refine go_st ?_)
     have h6 : (if chkL l = 0 then errB x else chkL l) = errB x := if_pos k1
     exact go_l ⟨(eJ @h6), rfl⟩
   · have k1 := of_decide_eq_false k1
     (intros; try refine go_st ?_)
     have h6 : (if chkL l = 0 then errB x else chkL l) = chkL l := if_neg k1
     exact go_l ⟨(eJ @h6), rfl⟩
 rintro e h ⟨e6, rfl⟩
 refine go_keep [6] ?_
 (refine sJ @e6 ?_; try with_reducible exact True.intro)
 have hno : ¬ (chkL l = 0 ∧ errB x = 0) → ¬ (if chkL l = 0 then errB x else chkL l) = 0 := fun h h2 => by
   by_cases k : chkL l = 0
   · rw [if_pos k] at h2; exact h ⟨k, h2⟩
   · rw [if_neg k] at h2; exact k h2
 have happ : ¬ (chkL l = 0 ∧ errB x = 0) → appL l x = (noneL, if chkL l = 0 then errB x else chkL l) := fun h => by
   unfold appL
   by_cases k : chkL l = 0
   · rw [if_pos k, if_pos k, if_neg fun h2 => h ⟨k, h2⟩]
   · rw [if_neg k, if_neg k]
 have hyes : chkL l = 0 ∧ errB x = 0 → (if chkL l = 0 then errB x else chkL l) = 0 := fun h => by rw [if_pos h.1, h.2]
 generalize (if chkL l = 0 then errB x else chkL l) = er at *
 (repeat (with_reducible intro _))
 (intros; try refine go_st ?_); refine go_r 18 20 (by decide) ?_; (refine sJ c21r4.eq_1 ?_; try with_reducible exact True.intro)
 (intros; try refine go_st ?_); refine go_c ?_; (refine sI ?_; try with_reducible exact True.intro)
 refine gb (fun k1 => ?_) (fun k1 => ?_)
 · have k1 := of_decide_eq_true k1
   (intros; try refine go_st ?_); refine go_r 20 22 (by decide) ?_; (refine sJ c21r5.eq_1 ?_; try with_reducible exact True.intro)
   (intros; try refine go_st ?_)
   refine go_ret (retQ_v rfl ?_); simp only [push_cast, Nat.reduceBEq]
   rw [happ fun h => k1 (hyes h)]
   exact noneL_r
 have k1 : er = 0 := by simpa using k1
 have k2 : chkL l = 0 ∧ errB x = 0 := Decidable.not_not.1 fun h => hno h k1
 clear happ hno hyes
 obtain ⟨k0, k1⟩ := k2
 obtain ⟨c1, c2, c3, c4⟩ := chkL_0 k0
 obtain ⟨s, e1, e2, e3, e4, e5⟩ := log_last k0
 have h0 : 0 < l.segs.length := List.length_pos_iff.2 c2
 have hz : sizeB x = (bytesB x).length := by rw [sizeB, putB_0 k1]
 rw [hz] at hsz
 have hlim := mayO_iff.1 c1
 (refine sI ?_; try with_reducible exact True.intro)
 (intros; try refine go_st ?_); refine go_x _ (List.Sublist.refl _) (by decide) ?_; (refine sJ c21r6.eq_1 ?_; try with_reducible exact True.intro)
 refine (hend c2 (by omega) _ _).mono ?_; rintro _ _ ⟨rfl, rfl⟩; (refine sI ?_; try with_reducible exact True.intro)
 (intros; try refine go_st ?_); refine go_c ?_; (refine sI ?_; try with_reducible exact True.intro)
 refine gb (fun k2 => ?_) (fun k2 => ?_)
 · have k2 := of_decide_eq_true k2
   (intros; try refine go_st ?_); refine go_r 28 29 (by decide) ?_; (refine sJ c21r7.eq_1 ?_; try with_reducible exact True.intro)
   (intros; try refine go_st ?_)
   refine go_ret (retQ_v rfl ?_); simp only [push_cast, Nat.reduceBEq]
   rw [appL, if_pos k0, if_pos k1, if_pos k2]
   exact noneL_r
 have k2 := of_decide_eq_false k2
 (repeat first | (with_reducible intro _) | refine go_skip ?_ | refine go_b ?_)
 (intros; try refine go_st ?_); refine go_x _ (List.Sublist.refl _) (by decide) ?_; (refine sJ c21r8.eq_1 ?_; try with_reducible exact True.intro)
 refine (hsz _ _).mono ?_; rintro _ _ ⟨rfl, rfl⟩; (refine sI ?_; try with_reducible exact True.intro)
 (intros; try refine go_st ?_); refine go_c ?_; (refine sI ?_; try with_reducible exact True.intro)
 refine gb (fun k3 => ?_) (fun k3 => ?_)
 · have k3 := of_decide_eq_true k3
   (intros; try refine go_st ?_); refine go_r 35 36 (by decide) ?_; (refine sJ c21r9.eq_1 ?_; try with_reducible exact True.intro)
   (intros; try refine go_st ?_)
   refine go_ret (retQ_v rfl ?_); simp only [push_cast, Nat.reduceBEq]
   rw [appL, if_pos k0, if_pos k1, if_neg k2, if_pos k3]
   exact noneL_r
 have k3 := of_decide_eq_false k3
 (repeat first | (with_reducible intro _) | refine go_skip ?_ | refine go_b ?_)
 (intros; try refine go_st ?_); refine go_r 36 38 (by decide) ?_; (refine sJ c21r10.eq_1 ?_; try with_reducible exact True.intro)
 refine (last_ok l A c _ (by omega) _ _).mono ?_; rintro _ _ ⟨rfl, rfl⟩; (refine sI ?_; try with_reducible exact True.intro)
 (repeat (with_reducible intro _))
 (repeat (with_reducible intro _)); try refine go_seq ?_
 (repeat (with_reducible intro _)); try refine go_seq ?_
 refine go_cut (fun e h => ∃ (G' : Nat → Option Obj) (b8 : Nat) (A3 : Option Addr) (c3 : Nat), (Gle G G' ∧ SB G' (.slice A3 (appS s x l.limit).1.bytes.length c3) (appS s x l.limit).1.bytes) ∧ e 7 = .int .i64 ((l.segs.length : Int) - 1) ∧ e 8 = .pointer (some ⟨b8, 0, none⟩) ∧ e 9 = .int .i64 (appS s x l.limit).2 ∧ h = ⟨G', [.blk b8 [.int .i64 (appS s x l.limit).1.base, .slice A3 (appS s x l.limit).1.bytes.length c3], .reg 4 [.int .i64 0, .int .i64 0, .slice none 0 0], .reg 3 [.int .i64 x.base, .int .i64 x.last, .int .i64 x.src, .int .i64 x.epoch, .int .i64 x.pid, .int .i64 x.gen, .int .i64 x.seq, .bool x.txn, .int .i64 x.ctl, .slice B x.recs.length d], .reg 2 [.int .i64 l.limit, .int .i64 l.start, .slice A l.segs.length c]], []⟩) ?_ ?_
 · (intros; try refine go_st ?_); refine go_z _ (List.Sublist.refl _) (by decide) ?_; (refine sJ c21r11.eq_1 ?_; try with_reducible exact True.intro)
   refine hA.y_ld e1 (by omega) rfl ?_
   rintro a1 ha1 cs hse
   have hapd := Append_ok s x l.limit cs _ G hse (hb s (List.mem_of_getElem? e1)) hx0 hi
   obtain ⟨B1, d1, rfl, hsb, hsi⟩ := hse
   unfold cellS at hapd ⊢
   (refine sI ?_; try with_reducible exact True.intro)
   refine ⟨?_, ?_⟩
   · refine (ownSE_d hapd _ _).mono ?_
     rintro r h' ⟨G1, rfl, hg1, A3, c3, rfl, hs1⟩
     (refine sI ?_; try with_reducible exact True.intro)
     refine ⟨grow_G hg1, ?_⟩
     intro b8 hb8
     refine ⟨grow_L hg1 (.cons _ (List.Sublist.refl _)), ?_⟩
     (refine sI ?_; try with_reducible exact True.intro)
     refine stX_blk [] _ rfl (Nat.le_refl 2) ⟨rfl, rfl⟩ ?_
     (refine sI ?_; try with_reducible exact True.intro)
     refine ⟨grow_L hg1 (.cons _ (List.Sublist.refl _)), ?_⟩
     (refine sI ?_; try with_reducible exact True.intro)
     exact go_l ⟨G1, b8, A3, c3, ⟨hg1, hs1⟩, eE, eE, eE, rfl⟩
   · intro b8 hb8
     refine ⟨grow_L (fun _ _ h => h) (.cons _ (List.Sublist.refl _)), ?_⟩
     refine (ownSE_d hapd _ _).mono ?_
     rintro r h' ⟨G1, rfl, hg1, A3, c3, rfl, hs1⟩
     (refine sI ?_; try with_reducible exact True.intro)
     refine ⟨grow_L hg1 (.cons _ (List.Sublist.refl _)), ?_⟩
     (refine sI ?_; try with_reducible exact True.intro)
     refine stX_blk [] _ rfl (Nat.le_refl 2) ⟨rfl, rfl⟩ ?_
     (refine sI ?_; try with_reducible exact True.intro)
     refine ⟨grow_L hg1 (.cons _ (List.Sublist.refl _)), ?_⟩
     (refine sI ?_; try with_reducible exact True.intro)
     exact go_l ⟨G1, b8, A3, c3, ⟨hg1, hs1⟩, eE, eE, eE, rfl⟩
 rintro e h ⟨G1, b8, A3, c3, ⟨hg1, hs1⟩, e7, e8, e9, rfl⟩
 refine go_keep [7, 8, 9] ?_
 (refine sJ3 @e7 @e8 @e9 ?_; try with_reducible exact True.intro)
 (repeat (with_reducible intro _))
 refine go_gx gx_blk ?_
 rintro h' ⟨G2, rfl, hg2, f8⟩
 have hs1 := SB.le hs1 hg2
 have hg1 := hg1.trans hg2
 have ht1 : ((l.segs.length : Int) - 1).toNat = l.segs.length - 1 := by omega
 (intros; try refine go_st ?_); refine go_r 50 51 (by decide) ?_; (refine sJ c21r12.eq_1 ?_; try with_reducible exact True.intro)
 (intros; try refine go_st ?_); refine go_c ?_; (refine sI ?_; try with_reducible exact True.intro)
 refine gb (fun k4 => ?_) (fun k4 => ?_)
 · have k4 : (appS s x l.limit).2 = 0 := of_decide_eq_true k4
   have hsl1 : SlV G2 (SE G2) 2 (.slice A l.segs.length c) l.segs := SlSE.le hg1 ⟨A, c, rfl, hc, hmx, hA⟩
   have hpre := SlV.pre (l.segs.length - 1) hsl1 (by omega)
   have hcl := CloneS_ok (l.segs.take (l.segs.length - 1)) _ G2 hpre (by simp; omega)
   have hlk : (l.segs.take (l.segs.length - 1)).length = l.segs.length - 1 := by simp
   have hxe : appL l x = (⟨l.limit, l.start, l.segs.take (l.segs.length - 1) ++ [(appS s x l.limit).1]⟩, 0) := by
     rw [appL, if_pos k0, if_pos k1, if_neg k2, if_neg k3, e3, if_pos k4]
   have hse2 : SE G2 (appS s x l.limit).1 [.int .i64 (appS s x l.limit).1.base, .slice A3 (appS s x l.limit).1.bytes.length c3] := by
     refine ⟨A3, c3, rfl, hs1, ?_⟩
     obtain ⟨-, -, -, -, hh⟩ := appS_ok k4
     rw [hh]
     exact sl_i hA s (List.mem_of_getElem? e1)
   rw [hxe]
   clear hxe
   generalize (appS s x l.limit).1 = s' at *
   rw [k4]
   (repeat (with_reducible intro _)); try refine go_seq ?_
   (intros; try refine go_st ?_); refine go_z _ (.cons _ (List.Sublist.refl _)) (by decide) ?_; (refine sJ c21r13.eq_1 ?_; try with_reducible exact True.intro)
   refine ⟨by omega, ?_⟩
   refine ⟨_, ⟨_, [.int .i64 s'.base, .slice A3 s'.bytes.length c3], rfl, rfl, rfl, fun j u hu => .g (f8 j u hu)⟩, ?_⟩
   (refine sJ @ht1 ?_; try with_reducible exact True.intro)
   refine ⟨?_, ?_⟩
   · refine (ownN_sl hcl _ _).mono ?_
     rintro r h' ⟨G8, L', rfl, hg3, A4, c4, ys, rfl, -, hys, rfl⟩
     (refine sI ?_; try with_reducible exact True.intro)
     refine ⟨grow_L hg3 (.cons _ (.cons _ (List.Sublist.refl _))), ?_⟩
     intro b9 hb9
     refine ⟨grow_L hg3 (.cons _ (.cons _ (.cons _ (List.Sublist.refl _)))), ?_⟩
     (refine sI ?_; try with_reducible exact True.intro)
     refine app1 (L1 := []) (L2 := [_, _, _]) (E := SE G2) (x := s') rfl hse2 rfl (by simp [Value.oneCell']) hys (by omega) (by omega) fun A' c' zc' hzc' => ?_
     dsimp only
     generalize l.segs.take (l.segs.length - 1) ++ [s'] = ZS at *
     (refine sI ?_; try with_reducible exact True.intro)
     refine ⟨grow_L hg3 (.cons _ (.cons _ (.cons _ (List.Sublist.refl _)))), ?_⟩
     refine (with_ok _ _ _ _ _ _ _ _ _ _ _).mono ?_; rintro _ _ ⟨rfl, rfl⟩; (refine sI ?_; try with_reducible exact True.intro)
     refine ⟨grow_L hg3 (.cons _ (.cons _ (.cons _ (List.Sublist.refl _)))), ?_⟩
     (refine sI ?_; try with_reducible exact True.intro)
     refine ⟨grow_L hg3 (.cons _ (.cons _ (.cons _ (List.Sublist.refl _)))), ?_⟩
     (refine sI ?_; try with_reducible exact True.intro)
     (intros; try refine go_st ?_)
     refine go_gx (gx_slv_at [_] _ (by decide) hzc') ?_
     rintro h' ⟨G9, rfl, hg9, hv9⟩
     refine go_ret (retQ_v rfl ?_); simp only [push_cast, Nat.reduceBEq]
     exact ⟨_, rfl, A', c', rfl, hv9.le (.refl _) fun _ _ h => SE.le (hg3.trans hg9) h, hi, hj⟩
   · intro b9 hb9
     refine ⟨grow_L (fun _ _ h => h) (.cons _ (.cons _ (List.Sublist.refl _))), ?_⟩
     refine (ownN_sl hcl _ _).mono ?_
     rintro r h' ⟨G8, L', rfl, hg3, A4, c4, ys, rfl, -, hys, rfl⟩
     (refine sI ?_; try with_reducible exact True.intro)
     refine ⟨grow_L hg3 (.cons _ (.cons _ (.cons _ (List.Sublist.refl _)))), ?_⟩
     (refine sI ?_; try with_reducible exact True.intro)
     refine app2 (L2 := [_, _, _]) (E := SE G2) (x := s') rfl hse2 rfl (by simp [Value.oneCell']) hys (by omega) (by omega) fun A' c' zc' hzc' => ?_
     dsimp only
     generalize l.segs.take (l.segs.length - 1) ++ [s'] = ZS at *
     (refine sI ?_; try with_reducible exact True.intro)
     refine ⟨grow_L hg3 (.cons _ (.cons _ (.cons _ (List.Sublist.refl _)))), ?_⟩
     refine (with_ok _ _ _ _ _ _ _ _ _ _ _).mono ?_; rintro _ _ ⟨rfl, rfl⟩; (refine sI ?_; try with_reducible exact True.intro)
     refine ⟨grow_L hg3 (.cons _ (.cons _ (.cons _ (List.Sublist.refl _)))), ?_⟩
     (refine sI ?_; try with_reducible exact True.intro)
     refine ⟨grow_L hg3 (.cons _ (.cons _ (.cons _ (List.Sublist.refl _)))), ?_⟩
     (refine sI ?_; try with_reducible exact True.intro)
     (intros; try refine go_st ?_)
     refine go_gx (gx_slv_at [] _ (by decide) hzc') ?_
     rintro h' ⟨G9, rfl, hg9, hv9⟩
     refine go_ret (retQ_v rfl ?_); simp only [push_cast, Nat.reduceBEq]
     exact ⟨_, rfl, A', c', rfl, hv9.le (.refl _) fun _ _ h => SE.le (hg3.trans hg9) h, hi, hj⟩
 have k4 := of_decide_eq_false k4
 clear hs1 f8
 (repeat first | (with_reducible intro _) | refine go_skip ?_ | refine go_b ?_)
 have hd : decide ((l.segs.length : Int) = 256) = decide (l.segs.length = 256) := decide_eq_decide.2 (by omega)
 (intros; try refine go_st ?_); refine go_r 63 65 (by decide) ?_; (refine sJ2 c21r14.eq_1 @hd ?_; try with_reducible exact True.intro)
 (intros; try refine go_st ?_); refine go_c ?_; (refine sI ?_; try with_reducible exact True.intro)
 refine gb (fun k5 => ?_) (fun k5 => ?_)
 · have k5 := of_decide_eq_true k5
   (intros; try refine go_st ?_); refine go_r 66 67 (by decide) ?_; (refine sJ c21r15.eq_1 ?_; try with_reducible exact True.intro)
   (intros; try refine go_st ?_)
   refine go_ret (retQ_v rfl ?_); simp only [push_cast, Nat.reduceBEq]
   rw [appL, if_pos k0, if_pos k1, if_neg k2, if_neg k3, e3, if_neg k4, if_pos k5]
   exact noneL_r
 have k5 := of_decide_eq_false k5
 have hxe : appL l x = (⟨l.limit, l.start, l.segs ++ [⟨x.base, bytesB x⟩]⟩, 0) := by
   rw [appL, if_pos k0, if_pos k1, if_neg k2, if_neg k3, e3, if_neg k4, if_neg k5]
 have hof := of_one (limO_of c1) k1 (show ((bytesB x).length : Int) ≤ l.limit by omega)
 have hxi : I64 x.base := by obtain ⟨_, _, _, _, h, -⟩ := hx0; exact h
 rw [hxe]
 clear hxe
 (repeat first | (with_reducible intro _) | refine go_skip ?_ | refine go_b ?_)
 (intros; try refine go_st ?_); refine go_r 67 77 (by decide) ?_; (refine sJ c21r16.eq_1 ?_; try with_reducible exact True.intro)
 intro b9 hb9
 (refine sI ?_; try with_reducible exact True.intro)
 refine calls_gx0 F46.enters (gx_slv_at [] _ (by decide) (Cells.one (E := BE G2) (x := x) (BE.le hg1 hx0) rfl)) ?_
 rintro h' ⟨G3, rfl, hg3, hv3⟩
 refine (Of_ok x.base l.limit [x] _ G3 (hv3.le (.refl _) fun _ _ h => BE.le hg3 h) hxi hi _ _).mono ?_
 rw [hof]
 rintro r h' ⟨G4, rfl, hg4, A5, c5, rfl, hs5⟩
 have hg14 := hg1.trans (hg3.trans hg4)
 have hse2 : SE G4 ⟨x.base, bytesB x⟩ [.int .i64 x.base, .slice A5 (bytesB x).length c5] := ⟨A5, c5, rfl, hs5, hxi⟩
 have hse2 : SE G4 ⟨x.base, bytesB x⟩ [.int .i64 (⟨x.base, bytesB x⟩ : Sg).base, .slice A5 (⟨x.base, bytesB x⟩ : Sg).bytes.length c5] := hse2
 generalize (⟨x.base, bytesB x⟩ : Sg) = s' at *
 (refine sI ?_; try with_reducible exact True.intro)
 (intros; try refine go_st ?_); refine go_r 77 78 (by decide) ?_; (refine sJ c21r17.eq_1 ?_; try with_reducible exact True.intro)
 have hz0 : decide ((0 : Int) ≠ 0) = false := by decide
 (refine sJ @hz0 ?_; try with_reducible exact True.intro)
 (intros; try refine go_st ?_); refine go_c ?_; (refine sI ?_; try with_reducible exact True.intro)
 (repeat first | (with_reducible intro _) | refine go_skip ?_ | refine go_b ?_)
 have hsl1 : SlV G4 (SE G4) 2 (.slice A l.segs.length c) l.segs := SlSE.le hg14 ⟨A, c, rfl, hc, hmx, hA⟩
 have hcl := CloneS_ok l.segs _ G4 hsl1 (by omega)
 have hs5 : SB G4 (.slice A5 s'.bytes.length c5) s'.bytes := hs5
 (intros; try refine go_st ?_); refine go_z _ (.cons_cons _ (.cons _ (List.Sublist.refl _))) (by decide) ?_; (refine sJ c21r19.eq_1 ?_; try with_reducible exact True.intro)
 refine ⟨?_, ?_⟩
 · refine (ownN_sl hcl _ _).mono ?_
   rintro r h' ⟨G8, L', rfl, hg3, A4, c4, ys, rfl, -, hys, rfl⟩
   (refine sI ?_; try with_reducible exact True.intro)
   refine ⟨grow_L hg3 (.cons _ (.cons_cons _ (.cons _ (List.Sublist.refl _)))), ?_⟩
   intro b9 hb9
   refine ⟨grow_L hg3 (.cons _ (.cons _ (.cons_cons _ (.cons _ (List.Sublist.refl _))))), ?_⟩
   (refine sI ?_; try with_reducible exact True.intro)
   refine app1 (L1 := []) (L2 := [_, _, _, _]) (E := SE G4) (x := s') rfl hse2 rfl (by simp [Value.oneCell']) hys (by omega) (by omega) fun A' c' zc' hzc' => ?_
   dsimp only
   generalize l.segs ++ [s'] = ZS at *
   (refine sI ?_; try with_reducible exact True.intro)
   refine ⟨grow_L hg3 (.cons _ (.cons _ (.cons_cons _ (.cons _ (List.Sublist.refl _))))), ?_⟩
   refine (with_ok _ _ _ _ _ _ _ _ _ _ _).mono ?_; rintro _ _ ⟨rfl, rfl⟩; (refine sI ?_; try with_reducible exact True.intro)
   refine ⟨grow_L hg3 (.cons _ (.cons _ (.cons_cons _ (.cons _ (List.Sublist.refl _))))), ?_⟩
   (refine sI ?_; try with_reducible exact True.intro)
   refine ⟨grow_L hg3 (.cons _ (.cons _ (.cons_cons _ (.cons _ (List.Sublist.refl _))))), ?_⟩
   (refine sI ?_; try with_reducible exact True.intro)
   (intros; try refine go_st ?_)
   refine go_gx (gx_slv_at [_] _ (by decide) hzc') ?_
   rintro h' ⟨G9, rfl, hg9, hv9⟩
   refine go_ret (retQ_v rfl ?_); simp only [push_cast, Nat.reduceBEq]
   exact ⟨_, rfl, A', c', rfl, hv9.le (.refl _) fun _ _ h => SE.le (hg3.trans hg9) h, hi, hj⟩
 · intro b9 hb9
   refine ⟨grow_L (fun _ _ h => h) (.cons _ (.cons_cons _ (.cons _ (List.Sublist.refl _)))), ?_⟩
   refine (ownN_sl hcl _ _).mono ?_
   rintro r h' ⟨G8, L', rfl, hg3, A4, c4, ys, rfl, -, hys, rfl⟩
   (refine sI ?_; try with_reducible exact True.intro)
   refine ⟨grow_L hg3 (.cons _ (.cons _ (.cons_cons _ (.cons _ (List.Sublist.refl _))))), ?_⟩
   (refine sI ?_; try with_reducible exact True.intro)
   refine app2 (L2 := [_, _, _, _]) (E := SE G4) (x := s') rfl hse2 rfl (by simp [Value.oneCell']) hys (by omega) (by omega) fun A' c' zc' hzc' => ?_
   dsimp only
   generalize l.segs ++ [s'] = ZS at *
   (refine sI ?_; try with_reducible exact True.intro)
   refine ⟨grow_L hg3 (.cons _ (.cons _ (.cons_cons _ (.cons _ (List.Sublist.refl _))))), ?_⟩
   refine (with_ok _ _ _ _ _ _ _ _ _ _ _).mono ?_; rintro _ _ ⟨rfl, rfl⟩; (refine sI ?_; try with_reducible exact True.intro)
   refine ⟨grow_L hg3 (.cons _ (.cons _ (.cons_cons _ (.cons _ (List.Sublist.refl _))))), ?_⟩
   (refine sI ?_; try with_reducible exact True.intro)
   refine ⟨grow_L hg3 (.cons _ (.cons _ (.cons_cons _ (.cons _ (List.Sublist.refl _))))), ?_⟩
   (refine sI ?_; try with_reducible exact True.intro)
   (intros; try refine go_st ?_)
   refine go_gx (gx_slv_at [] _ (by decide) hzc') ?_
   rintro h' ⟨G9, rfl, hg9, hv9⟩
   refine go_ret (retQ_v rfl ?_); simp only [push_cast, Nat.reduceBEq]
   exact ⟨_, rfl, A', c', rfl, hv9.le (.refl _) fun _ _ h => SE.le (hg3.trans hg9) h, hi, hj⟩
theorem F39 : Fun Try.prog 39 6 v39 c39 o39 := Fun.mk' Try.func39 Try.ntmps39 (by kernel_rfl) (by kernel_rfl) s39 q39
theorem F62 : Fun Try.prog 62 40 v62 c62 o62 := Fun.mk' Try.func62 Try.ntmps62 (by kernel_rfl) (by kernel_rfl) s62 q62
theorem F61 : Fun Try.prog 61 13 v61 c61 o61 := Fun.mk' Try.func61 Try.ntmps61 (by kernel_rfl) (by kernel_rfl) s61 q61
theorem F38 : Fun Try.prog 38 5 v38 c38 o38 := Fun.mk' Try.func38 Try.ntmps38 (by kernel_rfl) (by kernel_rfl) s38 q38
theorem F16 : Fun Try.prog 16 11 v16 c16 o16 := Fun.mk' Try.func16 Try.ntmps16 (by kernel_rfl) (by kernel_rfl) s16 q16
def EBx (G : Nat → Option Obj) (x : Batch) (args : Array Value) : Prop := ∃ cs, BE G x cs ∧ args = #[.agg cs.toArray]
theorem bsS_take {l : List Sg} {k : Nat} {s : Sg} (h : l[k]? = some s) : bsS (l.take (k + 1)) = bsS (l.take k) ++ scanB s := by
 rw [take_snoc' h, bsS_app, bsS_cons, bsS_nil, List.append_nil]
theorem reach_one (off : Int) (x : Batch) : reach off [x] = if off ≤ x.last then [x] else [] := by
 unfold reach
 by_cases h : off ≤ x.last <;> simp [h]
theorem reach_at {off : Int} {l : List Sg} {k j : Nat} {s : Sg} {x : Batch} (hs : l[k]? = some s) (hx : (scanB s)[j]? = some x) (hf : off ≤ x.last) :
   (reach off (bsS l))[(reach off (bsS (l.take k))).length + (reach off ((scanB s).take j)).length]? = some x := by
 have e1 : bsS l = bsS (l.take k) ++ (((scanB s).take j ++ x :: (scanB s).drop (j + 1)) ++ bsS (l.drop (k + 1))) := by
   rw [← split_at hx, ← bsS_cons, ← bsS_app, ← split_at hs]
 have e2 : reach off (x :: (scanB s).drop (j + 1)) = x :: reach off ((scanB s).drop (j + 1)) := by
   unfold reach
   rw [List.filter_cons, if_pos (by simp [hf])]
 rw [e1, reach_app, reach_app, reach_app, e2]
 simp
set_option maxHeartbeats 1000000 in
theorem batches1_iter (l : Lg) (off : Int) (A : Option Addr) (c b1 b2 : Nat) (G0 : Nat → Option Obj) (hl : SlV G0 (SE G0) 2 (.slice A l.segs.length c) l.segs) (hb : smL l.segs) (h1 : cellG G0 ⟨b1, 2, none⟩ = some (.slice A l.segs.length c)) (h2 : cellG G0 ⟨b2, 0, none⟩ = some (.int .i64 off)) :
   IterH Try.prog 62 #[.pointer (some ⟨b1, 0, none⟩), .pointer (some ⟨b2, 0, none⟩)] (reach off (bsS l.segs)) EBx G0 := by
 intro yl I Ix G L hG hn hI hIx hmo hi0 hy L2 D
 have hargs : (#[.func (.yield yl) #[] #[]] ++ #[.pointer (some ⟨b1, 0, none⟩), .pointer (some ⟨b2, 0, none⟩)] : Array Value) = #[.func (.yield yl) #[] #[], .pointer (some ⟨b1, 0, none⟩), .pointer (some ⟨b2, 0, none⟩)] := rfl
 rw [hargs]
 have hat := fun k j s x => @reach_at off l.segs k j s x
 have htot : (reach off (bsS (l.segs.take l.segs.length))).length = (reach off (bsS l.segs)).length := by rw [List.take_length]
 generalize reach off (bsS l.segs) = T at *
 refine (F62.calls (R := fun _ h => Gle G h.G ∧ (I T.length h.G h.L ∨ ∃ i, i < T.length ∧ Ix i h.G h.L)) (by simp) hn (go_of ?_) L2 D).mono ?_
 rotate_left
 · rintro v h' ⟨G', L', rfl, hn', hgg, hr⟩
   exact ⟨G', L', rfl, hgg, hn', hr⟩
 have e1 := cellG_le hG h1
 have e2 := cellG_le hG h2
 have hlG := SlSE.le hG hl
 obtain ⟨A0, c0, he, hc, hmx, hA⟩ := id hlG
 cases he
 unfold c62
 (intros; try refine go_st ?_); refine go_r 10 11 (by decide) ?_; (refine sJ c62r0.eq_1 ?_; try with_reducible exact True.intro)
 refine ⟨_, ⟨_, rfl, .g e1⟩, ?_⟩
 (refine sI ?_; try with_reducible exact True.intro)
 (intros; try refine go_st ?_)
 refine go_loop (fun e h => ∃ (k : Nat) (G' : Nat → Option Obj) (L' Lh : List Kx.Item), (k ≤ l.segs.length ∧ Gle G G' ∧ NoRegs L' ∧ I (reach off (bsS (l.segs.take k))).length G' L') ∧ e 13 = .int .i64 k ∧ e 12 = .int .i64 l.segs.length ∧ e 11 = .slice A l.segs.length c ∧ e 0 = .func (.yield yl) #[] #[] ∧ e 2 = .pointer (some ⟨b2, 0, none⟩) ∧ h = ⟨G', Lh, []⟩ ∧ L'.Sublist Lh) (fun e h => l.segs.length - iv (e 13)) ?_ ?_
 · exact ⟨0, G, L, L, ⟨Nat.zero_le _, .refl G, hn, hi0⟩, eE, eE, eE, eE, eE, rfl, List.Sublist.refl _⟩
 rintro e h ⟨k, G', L', Lh, ⟨hk, hgg, hn', hI'⟩, e13, e12, e11, e00, e22, rfl, hsub⟩
 refine go_keep [0, 2, 11, 12, 13] ?_
 (refine sJ5 @e00 @e22 @e11 @e12 @e13 ?_; try with_reducible exact True.intro)
 (repeat (with_reducible intro _))
 refine go_ghost (ghost_sub hsub) ?_
 have hrm5 := rmR_no (s := 5) hn'
 (intros; try refine go_st ?_); refine go_r 0 0 (by decide) ?_; (refine sJ c62r1.eq_1 ?_; try with_reducible exact True.intro)
 (intros; try refine go_st ?_); refine go_c ?_; (refine sI ?_; try with_reducible exact True.intro)
 refine gb (fun ht => ?_) (fun ht => ?_)
 · have ht : k < l.segs.length := by have := of_decide_eq_true ht; omega
   have hw := inc_i k c (by omega) hmx
   obtain ⟨s, hs⟩ : ∃ s, l.segs[k]? = some s := ⟨l.segs[k], List.getElem?_eq_getElem (by omega)⟩
   have hbs := hb s (List.mem_of_getElem? hs)
   have hlG' := SlSE.le hgg hlG
   obtain ⟨A0, c0, he, -, -, hA'⟩ := hlG'
   cases he
   (repeat first | (with_reducible intro _) | refine go_skip ?_ | refine go_b ?_)
   (intros; try refine go_st ?_); refine go_r 15 17 (by decide) ?_; (refine sJ c62r2.eq_1 ?_; try with_reducible exact True.intro)
   refine hA'.x_ld hs rfl rfl ?_
   rintro a1 ha1 cs hse
   have hscan := Scan_ok s cs G' hse (by omega)
   obtain ⟨B, d, rfl, hsb, hsi⟩ := hse
   unfold cellS at hscan ⊢
   (refine sJ @hrm5 ?_; try with_reducible exact True.intro)
   (intros; try refine go_st ?_); refine go_r 17 22 (by decide) ?_; (refine sJ c62r3.eq_1 ?_; try with_reducible exact True.intro)
   refine (hscan _ _).mono ?_
   rintro r h' ⟨G1, L1, rfl, hg1, u, zc, rfl, hzc, rfl⟩
   (refine sI ?_; try with_reducible exact True.intro)
   (repeat (with_reducible intro _)); try refine go_seq ?_
   refine go_gx (gx_slv_at [] _ (by decide) hzc) ?_
   rintro h' ⟨G2, rfl, hg2, hv2⟩
   have hv2 : SlV G2 (BE G2) 10 u (scanB s) := hv2.le (.refl _) fun _ _ h => BE.le hg2 h
   have hbt := bsS_take hs
   have hat' := fun j x => hat k j s x hs
   obtain ⟨rr, hsc⟩ := scan_spec s
   have hlen := hsc.len
   generalize scanB s = bs at *
   obtain ⟨A2, c2, rfl, hc2, hm2, hA2⟩ := hv2
   have hgg2 := hgg.trans (hg1.trans hg2)
   have hI2 := hmo _ _ _ _ (hg1.trans hg2) hI'
   (intros; try refine go_st ?_); refine go_r 0 0 (by decide) ?_; (refine sJ c62r4.eq_1 ?_; try with_reducible exact True.intro)
   (repeat (with_reducible intro _))
   refine go_cut (fun e h => ∃ (G' : Nat → Option Obj) (L' Lh : List Kx.Item), (Gle G G' ∧ NoRegs L' ∧ I (reach off (bsS (l.segs.take (k + 1)))).length G' L') ∧ e 13 = .int .i64 k ∧ e 12 = .int .i64 l.segs.length ∧ e 11 = .slice A l.segs.length c ∧ e 0 = .func (.yield yl) #[] #[] ∧ e 2 = .pointer (some ⟨b2, 0, none⟩) ∧ h = ⟨G', Lh, []⟩ ∧ L'.Sublist Lh) ?_ ?_
   · (intros; try refine go_st ?_)
     refine go_loop (fun e h => ∃ (j : Nat) (G' : Nat → Option Obj) (L' Lh : List Kx.Item), (j ≤ bs.length ∧ Gle G2 G' ∧ NoRegs L' ∧ I ((reach off (bsS (l.segs.take k))).length + (reach off (bs.take j)).length) G' L') ∧ e 24 = .int .i64 j ∧ e 23 = .int .i64 bs.length ∧ e 22 = .slice A2 bs.length c2 ∧ e 13 = .int .i64 k ∧ e 12 = .int .i64 l.segs.length ∧ e 11 = .slice A l.segs.length c ∧ e 0 = .func (.yield yl) #[] #[] ∧ e 2 = .pointer (some ⟨b2, 0, none⟩) ∧ h = ⟨G', Lh, []⟩ ∧ L'.Sublist Lh) (fun e h => bs.length - iv (e 24)) ?_ ?_
     · exact ⟨0, G2, L', _, ⟨Nat.zero_le _, .refl _, hn', hI2⟩, eE, eE, eE, eE, eE, eE, eE, eE, rfl, .cons _ (List.Sublist.refl _)⟩
     rintro e h ⟨j, G3, L3, Lh, ⟨hj, hg3, hn3, hI3⟩, e24, e23, e22', e13, e12, e11, e00, e22, rfl, hsub⟩
     refine go_keep [0, 2, 11, 12, 13, 22, 23, 24] ?_
     (try simp -implicitDefEqProofs only [kR_e, kQ_e, push_cast, Nat.reduceBEq, Nat.reduceAdd, Nat.reduceSub, Nat.reduceMul, Nat.reduceLT, Nat.reduceLeDiff, Nat.reduceEqDiff, reduceIte, Bool.not_true, Bool.not_false, true_and, and_true, Option.map_some, Option.bind_some, Int.toNat_natCast, e00, e22, e11, e12, e13, e22', e23, e24])
     (repeat (with_reducible intro _))
     refine go_ghost (ghost_sub hsub) ?_
     have hrm9 := rmR_no (s := 9) hn3
     have e2' := cellG_le (hgg2.trans hg3) e2
     (intros; try refine go_st ?_); refine go_r 0 0 (by decide) ?_; (refine sJ c62r5.eq_1 ?_; try with_reducible exact True.intro)
     (intros; try refine go_st ?_); refine go_c ?_; (refine sI ?_; try with_reducible exact True.intro)
     refine gb (fun ht2 => ?_) (fun ht2 => ?_)
     · have ht2 : j < bs.length := by have := of_decide_eq_true ht2; omega
       have hw2 := inc_i j c2 (by omega) hm2
       obtain ⟨x, hx⟩ : ∃ x, bs[j]? = some x := ⟨bs[j], List.getElem?_eq_getElem (by omega)⟩
       have hA3 := hA2.le hg3 (E' := BE G3) fun _ _ h => BE.le hg3 h
       have hrt : reach off (bs.take (j + 1)) = reach off (bs.take j) ++ (if off ≤ x.last then [x] else []) := by rw [take_snoc' hx, reach_app, reach_one]
       (repeat first | (with_reducible intro _) | refine go_skip ?_ | refine go_b ?_)
       (intros; try refine go_st ?_); refine go_r 26 28 (by decide) ?_; (refine sJ c62r6.eq_1 ?_; try with_reducible exact True.intro)
       refine hA3.x_ld hx rfl rfl ?_
       rintro a3 ha3 cs hbe
       have hbe0 := hbe
       obtain ⟨B3, d3, rfl, -⟩ := hbe
       unfold cellH at hbe0 ⊢
       (refine sJ @hrm9 ?_; try with_reducible exact True.intro)
       (intros; try refine go_st ?_); refine go_r 29 37 (by decide) ?_; (refine sJ c62r7.eq_1 ?_; try with_reducible exact True.intro)
       refine ⟨_, ⟨_, rfl, .g e2'⟩, ?_⟩
       (refine sI ?_; try with_reducible exact True.intro)
       refine gd (fun k1 => ?_) (fun k1 => ?_)
       · have k1 := of_decide_eq_true k1
         rw [if_pos k1] at hrt
         have hlen2 : (reach off (bsS (l.segs.take k))).length + (reach off (bs.take j)).length + 1 = (reach off (bsS (l.segs.take k))).length + (reach off (bs.take (j + 1))).length := by rw [hrt, List.length_append]; rfl
         have hxT := hat' j x hx k1
         (refine sI ?_; try with_reducible exact True.intro)
         refine .inr ⟨yl, rfl, ?_⟩
         refine YieldH.ghost (ghost_perm (List.perm_append_comm (l₁ := [_]))) ?_
         refine (hy _ x _ G3 L3 hxT (hgg2.trans hg3) ⟨_, hbe0, rfl⟩ hI3 [_] []).mono ?_
         rintro v h' ⟨G4, L4, rfl, hg4, hn4, hr⟩
         rcases hr with ⟨rfl, hr⟩ | ⟨rfl, hr⟩
         · (refine sI ?_; try with_reducible exact True.intro)
           (intros; try refine go_st ?_); refine go_c ?_; (refine sI ?_; try with_reducible exact True.intro)
           refine go_ghost (ghost_sub (List.sublist_append_left _ _)) ?_
           (intros; try refine go_st ?_); refine go_r 38 39 (by decide) ?_; (refine sJ2 c62r8.eq_1 @hw2 ?_; try with_reducible exact True.intro)
           (intros; try refine go_st ?_)
           rw [hlen2] at hr
           refine go_l ⟨⟨j + 1, G4, L4, _, ⟨by omega, hg3.trans hg4, hn4, hr⟩, eE, eE, eE, eE, eE, eE, eE, eE, rfl, List.Sublist.refl _⟩, ?_⟩
           (refine sI ?_; try with_reducible exact True.intro)
           omega
         · (refine sI ?_; try with_reducible exact True.intro)
           (intros; try refine go_st ?_); refine go_c ?_; (refine sI ?_; try with_reducible exact True.intro)
           (intros; try refine go_st ?_)
           refine go_ret (retQ_o L4 rfl (List.sublist_append_left _ _) hn4 ?_)
           exact ⟨hgg2.trans (hg3.trans hg4), .inr ⟨_, (List.getElem?_eq_some_iff.1 hxT).1, hr⟩⟩
       · have k1 := of_decide_eq_false k1
         rw [if_neg k1, List.append_nil] at hrt
         (refine sI ?_; try with_reducible exact True.intro)
         (intros; try refine go_st ?_); refine go_c ?_; (refine sI ?_; try with_reducible exact True.intro)
         refine go_ghost (ghost_sub (L' := L3) (.cons _ (List.Sublist.refl _))) ?_
         (intros; try refine go_st ?_); refine go_r 38 39 (by decide) ?_; (refine sJ2 c62r8.eq_1 @hw2 ?_; try with_reducible exact True.intro)
         (intros; try refine go_st ?_)
         refine go_l ⟨⟨j + 1, G3, L3, _, ⟨by omega, hg3, hn3, by rw [hrt]; exact hI3⟩, eE, eE, eE, eE, eE, eE, eE, eE, rfl, List.Sublist.refl _⟩, ?_⟩
         (refine sI ?_; try with_reducible exact True.intro)
         omega
     · have ht2 : j = bs.length := by have := of_decide_eq_false ht2; omega
       subst ht2
       rw [List.take_length] at hI3
       refine go_exit ?_
       (refine sI ?_; try with_reducible exact True.intro)
       (repeat first | (with_reducible intro _) | refine go_skip ?_ | refine go_b ?_)
       exact go_l ⟨G3, L3, _, ⟨hgg2.trans hg3, hn3, by rw [hbt, reach_app, List.length_append]; exact hI3⟩, eE, eE, eE, eE, eE, rfl, List.Sublist.refl _⟩
   rintro e h ⟨G3, L3, Lh, ⟨hg3, hn3, hI3⟩, e13, e12, e11, e00, e22, rfl, hsub⟩
   refine go_keep [0, 2, 11, 12, 13] ?_
   (refine sJ5 @e00 @e22 @e11 @e12 @e13 ?_; try with_reducible exact True.intro)
   (repeat (with_reducible intro _))
   refine go_ghost (ghost_sub hsub) ?_
   (intros; try refine go_st ?_); refine go_r 39 40 (by decide) ?_; (refine sJ2 c62r9.eq_1 @hw ?_; try with_reducible exact True.intro)
   (intros; try refine go_st ?_)
   refine go_l ⟨⟨k + 1, G3, L3, _, ⟨by omega, hg3, hn3, hI3⟩, eE, eE, eE, eE, eE, rfl, List.Sublist.refl _⟩, ?_⟩
   (refine sI ?_; try with_reducible exact True.intro)
   omega
 · have ht : k = l.segs.length := by have := of_decide_eq_false ht; omega
   subst ht
   rw [htot] at hI'
   refine go_exit ?_
   (refine sI ?_; try with_reducible exact True.intro)
   (intros; try refine go_st ?_)
   refine go_nil ?_
   exact ⟨[], rfl, ⟨G', L', []⟩, ghost_sub (List.Sublist.refl _), hn', hgg, .inl hI'⟩
theorem batches_ok (l : Lg) (off : Int) (cs : List Value) (G : Nat → Option Obj) (hl : LE G l cs) (hb : smL l.segs) :
   FnD Try.prog 39 #[.agg cs.toArray, .int .i64 off] G (fun G' r => ∃ b1 b2, r = .func (.func 62) #[] #[.pointer (some ⟨b1, 0, none⟩), .pointer (some ⟨b2, 0, none⟩)] ∧ IterH Try.prog 62 #[.pointer (some ⟨b1, 0, none⟩), .pointer (some ⟨b2, 0, none⟩)] (reach off (bsS l.segs)) EBx G') := by
 obtain ⟨A, c, rfl, hsl, hi, hj⟩ := hl
 refine F39.fnD (by simp) (go_of ?_)
 unfold c39 cellL
 (intros; try refine go_st ?_); refine go_r 0 0 (by decide) ?_; (refine sJ c39r0.eq_1 ?_; try with_reducible exact True.intro)
 intro b1 hb1 b2 hb2
 (intros; try refine go_st ?_)
 refine go_gx gx_blk ?_
 rintro h' ⟨G1, rfl, hg1, f2⟩
 refine go_gx gx_blk ?_
 rintro h' ⟨G2, rfl, hg2, f1⟩
 have e1 := f1 2 _ rfl
 have e2 := cellG_le hg2 (f2 0 _ rfl)
 rw [add_off] at e1 e2
 (intros; try refine go_st ?_); refine go_r 5 6 (by decide) ?_; (refine sJ c39r1.eq_1 ?_; try with_reducible exact True.intro)
 (intros; try refine go_st ?_)
 refine go_ret (retQ_v rfl ?_); simp only [push_cast, Nat.reduceBEq]
 exact ⟨b1, b2, rfl, batches1_iter l off A c b1 b2 G2 (SlSE.le (hg1.trans hg2) hsl) hb e1 e2⟩
theorem AppendSeq_ok (T : List Batch) (gf : Nat) (cap : Array Value) (G : Nat → Option Obj) (hit : IterH Try.prog gf cap T EBx G) (hEn : Enters Try.prog gf) (hT : T.length ≤ 1000000) :
   FnO Try.prog 61 #[.slice none 0 0, .func (.func gf) #[] cap] G [] (fun G' L' r => OwnL (BE G') 35 10 T L' r) := by
 refine F61.fnO (by simp) noRegs_nil (go_of ?_)
 unfold c61
 (intros; try refine go_st ?_); refine go_r 0 0 (by decide) ?_; (refine sJ c61r0.eq_1 ?_; try with_reducible exact True.intro)
 intro b2 hb2
 (intros; try refine go_st ?_); refine go_r 0 0 (by decide) ?_; (refine sJ c61r1.eq_1 ?_; try with_reducible exact True.intro)
 (intros; try refine go_st ?_)
 refine go_ghost (ghost_nil none 35 10) ?_
 refine go_rf (α := Batch) (fun k G' L' => ∃ u zc, L' = [.row u 35 10 (T.take k).length zc, .blk b2 [u]] ∧ Cells (BE G') 10 (T.take k) zc) (fun _ _ _ _ => False) (eE) hEn (noRegs_row (noRegs_blk noRegs_nil))
   (fun i G G' L hg ⟨u, zc, h1, h2⟩ => ⟨u, zc, h1, cells_imp h2 fun _ _ h => BE.le hg h⟩) hit (fun G x args h => by obtain ⟨_, _, rfl⟩ := h; rfl) ⟨_, [], rfl, .nil⟩ ?_ ?_ ?_
 · rintro yl k x args G' L' hx hgl ⟨cs, hbe, rfl⟩ ⟨u, zc, rfl, hzc⟩ _
   have hkl : k < T.length := (List.getElem?_eq_some_iff.1 hx).1
   have hbe0 := hbe
   obtain ⟨B, d, rfl, -⟩ := hbe
   unfold cellH at hbe0 ⊢
   (refine sI ?_; try with_reducible exact True.intro)
   (intros; try refine go_st ?_); refine go_r 0 0 (by decide) ?_; (refine sJ c61r2.eq_1 ?_; try with_reducible exact True.intro)
   intro bb
   refine go_nil (rnd_a ?_)
   have htk : T.take (k + 1) = T.take k ++ [x] := take_snoc' hx
   have hkl2 : (T.take k).length ≤ T.length := by rw [List.length_take]; omega
   have hkl3 : (T.take k).length = k := by rw [List.length_take]; omega
   (intros; try refine go_st ?_); refine go_r 8 12 (by decide) ?_; (refine sJ c61r3.eq_1 ?_; try with_reducible exact True.intro)
   refine ⟨_, ldN_blk (.tail _ (.tail _ (.head _))) rfl, ?_⟩
   (refine sI ?_; try with_reducible exact True.intro)
   intro bk hbk
   refine app1 (L1 := [_]) (L2 := [_]) (E := BE G') (x := x) rfl hbe0 rfl (by simp [Value.oneCell']) hzc (by omega) (by omega) fun A' c' zc' hzc' => ?_
   rw [← htk] at hzc' ⊢
   (refine sI ?_; try with_reducible exact True.intro)
   refine stX_blk [_, _, _] [] rfl (by simp) ⟨rfl, rfl⟩ ?_
   (refine sI ?_; try with_reducible exact True.intro)
   (intros; try refine go_st ?_)
   refine go_nil (rnd_n _ (.cons _ (.cons _ (List.Sublist.refl _))) (noRegs_row (noRegs_blk noRegs_nil)) ⟨_, zc', rfl, hzc'⟩)
 · rintro G' L' dd hgl ⟨u, zc, rfl, hzc⟩ _
   rw [List.take_length] at hzc ⊢
   refine go_b ?_
   (intros; try refine go_st ?_); refine go_r 12 13 (by decide) ?_; (refine sJ c61r4.eq_1 ?_; try with_reducible exact True.intro)
   refine ⟨_, ldN_blk (.tail _ (.head _)) rfl, ?_⟩
   (refine sI ?_; try with_reducible exact True.intro)
   (intros; try refine go_st ?_)
   refine go_ret (retQ_o _ rfl (.cons_cons _ (List.nil_sublist _)) (noRegs_row noRegs_nil) ?_)
   exact ⟨zc, hzc, rfl⟩
 · rintro ex i G' L' d _ _ h
   exact h.elim
theorem Collect_ok (T : List Batch) (gf : Nat) (cap : Array Value) (G : Nat → Option Obj) (hit : IterH Try.prog gf cap T EBx G) (hEn : Enters Try.prog gf) (hT : T.length ≤ 1000000) :
   FnO Try.prog 38 #[.func (.func gf) #[] cap] G [] (fun G' L' r => OwnL (BE G') 35 10 T L' r) := by
 refine F38.fnO (by simp) noRegs_nil (go_of ?_)
 unfold c38
 (intros; try refine go_st ?_); refine go_r 0 0 (by decide) ?_; (refine sJ c38r0.eq_1 ?_; try with_reducible exact True.intro)
 (intros; try refine go_st ?_); refine go_r 3 5 (by decide) ?_; (refine sJ c38r1.eq_1 ?_; try with_reducible exact True.intro)
 refine (AppendSeq_ok T gf cap G hit hEn hT _ _).mono ?_
 rintro r h' ⟨G1, L', rfl, hg1, zc, hzc, rfl⟩
 (refine sI ?_; try with_reducible exact True.intro)
 (intros; try refine go_st ?_)
 refine go_ret (retQ_o _ rfl (List.Sublist.refl _) (noRegs_row noRegs_nil) ?_)
 exact ⟨zc, hzc, rfl⟩
theorem len_allB (l : List Batch) : 9 * l.length ≤ (allB l).length := by
 induction l with
 | nil => simp
 | cons x l ih =>
   have := bytesB_pos x
   rw [allB_cons, List.length_append, List.length_cons]
   omega
theorem chk_len {l : Lg} (h : chkL l = 0) : (allB (bsS l.segs)).length ≤ 1048576 := by
 obtain ⟨h1, h2, h3, h4⟩ := chkL_0 h
 have h5 := (mayO_iff.1 h1).1.2
 have h6 := sizS_le h3
 have h7 := bsS_len h3
 have h9 : l.limit * (l.segs.length : Int) ≤ 4096 * 256 := Int.mul_le_mul h5 (by omega) (by omega) (by omega)
 omega
theorem reach_cnt {l : Lg} (off : Int) (h : chkL l = 0) : (allB (reach off (bsS l.segs))).length ≤ 1048576 ∧ (reach off (bsS l.segs)).length ≤ 1000000 := by
 have h1 := chk_len h
 have h2 := reach_len off (bsS l.segs)
 have h3 := len_allB (reach off (bsS l.segs))
 omega
theorem All_ok (l : Lg) (cs : List Value) (G : Nat → Option Obj) (hl : LE G l cs) (hb : smL l.segs) : FnD Try.prog 16 #[.agg cs.toArray] G (fun G' r => SlV G' (BE G') 10 r (AllL l)) := by
 have hl0 := hl
 have hchk := ChkL_ok l cs G hl hb
 obtain ⟨A, c, rfl, hsl, hi, hj⟩ := hl
 refine F16.fnD (by simp) (go_of ?_)
 unfold c16
 unfold cellL at hchk hl0 ⊢
 (intros; try refine go_st ?_); refine go_r 0 0 (by decide) ?_; (refine sJ c16r0.eq_1 ?_; try with_reducible exact True.intro)
 (intros; try refine go_st ?_); refine go_r 3 5 (by decide) ?_; (refine sJ c16r1.eq_1 ?_; try with_reducible exact True.intro)
 refine (hchk _ _).mono ?_; rintro _ _ ⟨rfl, rfl⟩; (refine sI ?_; try with_reducible exact True.intro)
 (intros; try refine go_st ?_); refine go_c ?_; (refine sI ?_; try with_reducible exact True.intro)
 refine gb (fun k1 => ?_) (fun k1 => ?_)
 · have k1 := of_decide_eq_true k1
   (intros; try refine go_st ?_); refine go_r 0 0 (by decide) ?_; (refine sJ c16r2.eq_1 ?_; try with_reducible exact True.intro)
   (intros; try refine go_st ?_)
   refine go_ret (retQ_v rfl ?_); simp only [push_cast, Nat.reduceBEq]
   rw [AllL, if_neg k1]
   exact slN
 have k1 : chkL l = 0 := by simpa using k1
 (repeat first | (with_reducible intro _) | refine go_skip ?_ | refine go_b ?_)
 (intros; try refine go_st ?_); refine go_r 6 11 (by decide) ?_; (refine sJ c16r3.eq_1 ?_; try with_reducible exact True.intro)
 refine (batches_ok l l.start _ G hl0 hb _ _).mono ?_
 rintro r h' ⟨G1, rfl, hg1, b1, b2, rfl, hit⟩
 (refine sI ?_; try with_reducible exact True.intro)
 refine (Collect_ok _ _ _ G1 hit F62.enters (reach_cnt _ k1).2 _ _).mono ?_
 rintro r h' ⟨G2, L', rfl, hg2, zc, hzc, rfl⟩
 (refine sI ?_; try with_reducible exact True.intro)
 (repeat (with_reducible intro _)); try refine go_seq ?_
 refine go_gx (gx_slv_at [] _ (by decide) hzc) ?_
 rintro h' ⟨G3, rfl, hg3, hv3⟩
 (intros; try refine go_st ?_)
 refine go_ret (retQ_v rfl ?_); simp only [push_cast, Nat.reduceBEq]
 rw [AllL, if_pos k1]
 exact hv3.le (.refl _) fun _ _ h => BE.le hg3 h
theorem F17 : Fun Try.prog 17 44 v17 c17 o17 := Fun.mk' Try.func17 Try.ntmps17 (by kernel_rfl) (by kernel_rfl) s17 q17
def BsR (p : List Batch × Int) (G : Nat → Option Obj) (r : Value) : Prop := ∃ A c, r = .tuple #[.slice A p.1.length c, .int .i64 p.2] ∧ SlV G (BE G) 10 (.slice A p.1.length c) p.1
theorem noneBs {p : Int} {G : Nat → Option Obj} : BsR ([], p) G (.tuple #[.slice none 0 0, .int .i64 p]) := ⟨none, 0, rfl, slN⟩
theorem asks_cut {T : List Batch} {k : Nat} {x : Batch} {m : Int} (hx : T[k]? = some x) :
   asks (decide (0 < k)) (m - ((allB (T.take k)).length : Int)) (T.drop k) = if 0 < k ∧ m - ((allB (T.take (k + 1))).length : Int) < 0 then [] else x :: asks (decide (0 < k + 1)) (m - ((allB (T.take (k + 1))).length : Int)) (T.drop (k + 1)) := by
 obtain ⟨h1, h2⟩ := List.getElem?_eq_some_iff.1 hx
 have e : (allB (T.take (k + 1))).length = (allB (T.take k)).length + (bytesB x).length := by rw [allB_take hx, List.length_append]
 have e2 : m - ((allB (T.take (k + 1))).length : Int) = m - ((allB (T.take k)).length : Int) - ((bytesB x).length : Int) := by omega
 rw [List.drop_eq_getElem_cons h1, h2, asks, e2]
 have hd : decide (0 < k + 1) = true := decide_eq_true (by omega)
 rw [hd]
 by_cases h3 : 0 < k
 · simp [h3]
 · simp [h3]
def fitT (T : List Batch) (m : Int) (k : Nat) : Prop := asks false m T = T.take k ++ asks (decide (0 < k)) (m - ((allB (T.take k)).length : Int)) (T.drop k)
theorem fit_0 (T : List Batch) (m : Int) : fitT T m 0 := by
 have : m - ((allB (T.take 0)).length : Int) = m := by simp [allB]
 unfold fitT
 rw [this]
 rfl
set_option maxHeartbeats 1000000 in
theorem Read_ok (l : Lg) (off most : Int) (cs : List Value) (G : Nat → Option Obj) (hl : LE G l cs) (hb : smL l.segs) (hm : l.segs.length ≤ 1000000) (ho : I64 off) (hmi : I64 most) :
   FnD Try.prog 17 #[.agg cs.toArray, .int .i64 off, .int .i64 most] G (BsR (readL l off most)) := by
 have hl0 := hl
 have hchk := ChkL_ok l cs G hl hb
 have hbt := between_ok l off cs G hl hb
 obtain ⟨A, c, rfl, hsl, hi, hj⟩ := hl
 refine F17.fnD (by simp) (go_of ?_)
 unfold c17
 unfold cellL at hchk hbt hl0 ⊢
 (intros; try refine go_st ?_); refine go_r 0 0 (by decide) ?_; (refine sJ c17r0.eq_1 ?_; try with_reducible exact True.intro)
 intro b3 hb3 b5 hb5
 (intros; try refine go_st ?_)
 refine go_gx (gx_blk_at [_] _) ?_
 rintro h' ⟨G1, rfl, hg1, f3⟩
 have hchk := ChkL_ok l _ G1 (LE.le hg1 hl0) hb
 have hbt := between_ok l off _ G1 (LE.le hg1 hl0) hb
 (intros; try refine go_st ?_); refine go_r 11 13 (by decide) ?_; (refine sJ c17r1.eq_1 ?_; try with_reducible exact True.intro)
 refine ⟨_, ⟨_, [.int .i64 l.limit, .int .i64 l.start, .slice A l.segs.length c], rfl, rfl, rfl, fun j u hu => .g (f3 j u hu)⟩, ?_⟩
 (refine sI ?_; try with_reducible exact True.intro)
 refine (hchk _ _).mono ?_; rintro _ _ ⟨rfl, rfl⟩; (refine sI ?_; try with_reducible exact True.intro)
 (intros; try refine go_st ?_); refine go_r 13 14 (by decide) ?_; (refine sJ c17r2.eq_1 ?_; try with_reducible exact True.intro)
 (intros; try refine go_st ?_); refine go_c ?_; (refine sI ?_; try with_reducible exact True.intro)
 refine gb (fun k1 => ?_) (fun k1 => ?_)
 · have k1 := of_decide_eq_true k1
   (intros; try refine go_st ?_); refine go_r 15 16 (by decide) ?_; (refine sJ c17r3.eq_1 ?_; try with_reducible exact True.intro)
   (intros; try refine go_st ?_)
   refine go_ret (retQ_v rfl ?_); simp only [push_cast, Nat.reduceBEq]
   rw [readL, if_neg k1]
   exact noneBs
 have k1 : chkL l = 0 := by simpa using k1
 obtain ⟨c1, c2, c3, c4⟩ := chkL_0 k1
 (repeat first | (with_reducible intro _) | refine go_skip ?_ | refine go_b ?_)
 (intros; try refine go_st ?_); refine go_r 17 19 (by decide) ?_; (refine sJ c17r4.eq_1 ?_; try with_reducible exact True.intro)
 refine ⟨_, ldN_blk (.head _) rfl, ?_⟩
 (refine sI ?_; try with_reducible exact True.intro)
 (intros; try refine go_st ?_); refine go_c ?_; (refine sI ?_; try with_reducible exact True.intro)
 refine gb (fun k2 => ?_) (fun k2 => ?_)
 · have k2 := of_decide_eq_true k2
   (intros; try refine go_st ?_); refine go_r 0 0 (by decide) ?_; (refine sJ c17r5.eq_1 ?_; try with_reducible exact True.intro)
   (intros; try refine go_st ?_)
   refine go_ret (retQ_v rfl ?_); simp only [push_cast, Nat.reduceBEq]
   rw [readL, if_pos k1, if_pos k2]
   exact noneBs
 have k2 := of_decide_eq_false k2
 (repeat first | (with_reducible intro _) | refine go_skip ?_ | refine go_b ?_)
 (intros; try refine go_st ?_); refine go_r 20 24 (by decide) ?_; (refine sJ c17r6.eq_1 ?_; try with_reducible exact True.intro)
 refine ⟨_, ⟨_, [.int .i64 l.limit, .int .i64 l.start, .slice A l.segs.length c], rfl, rfl, rfl, fun j u hu => .g (f3 j u hu)⟩, ?_⟩
 (refine sI ?_; try with_reducible exact True.intro)
 refine (hbt c2 hm _ _).mono ?_; rintro _ _ ⟨rfl, rfl⟩; (refine sI ?_; try with_reducible exact True.intro)
 (intros; try refine go_st ?_); refine go_c ?_; (refine sI ?_; try with_reducible exact True.intro)
 refine gb (fun k3 => ?_) (fun k3 => ?_)
 · have k3 : betw l off = false := by simpa using k3
   (intros; try refine go_st ?_); refine go_r 0 0 (by decide) ?_; (refine sJ c17r7.eq_1 ?_; try with_reducible exact True.intro)
   (intros; try refine go_st ?_)
   refine go_ret (retQ_v rfl ?_); simp only [push_cast, Nat.reduceBEq]
   rw [readL, if_pos k1, if_neg k2, if_neg (by rw [k3]; simp)]
   exact noneBs
 have k3 : betw l off = true := by simpa using k3
 have hread : readL l off most = (asks false most (reach off (bsS l.segs)), 0) := by rw [readL, if_pos k1, if_neg k2, if_pos k3]
 rw [hread]
 clear hread
 obtain ⟨t1, t2⟩ := reach_cnt off k1
 have hok : ∀ x ∈ reach off (bsS l.segs), errB x = 0 := fun x hx => bsS_err x (reach_mem hx).1
 (repeat first | (with_reducible intro _) | refine go_skip ?_ | refine go_b ?_)
 (intros; try refine go_st ?_); refine go_r 0 0 (by decide) ?_; (refine sJ c17r8.eq_1 ?_; try with_reducible exact True.intro)
 intro b9 hb9
 (intros; try refine go_st ?_); refine go_r 24 26 (by decide) ?_; (refine sJ c17r9.eq_1 ?_; try with_reducible exact True.intro)
 refine ⟨_, ⟨_, [.int .i64 l.limit, .int .i64 l.start, .slice A l.segs.length c], rfl, rfl, rfl, fun j u hu => .g (f3 j u hu)⟩, ?_⟩
 (refine sI ?_; try with_reducible exact True.intro)
 refine (batches_ok l off _ G1 (LE.le hg1 hl0) hb _ _).mono ?_
 rintro r h' ⟨G2, rfl, hg2, bb1, bb2, rfl, hit⟩
 generalize reach off (bsS l.segs) = T at *
 have hm0 : most - ((allB (T.take 0)).length : Int) = most := by simp [allB]
 have hmx : most < 9223372036854775808 := by unfold I64 at hmi; omega
 (refine sI ?_; try with_reducible exact True.intro)
 (intros; try refine go_st ?_)
 refine go_ghost (ghost_nil none 35 10) ?_
 refine go_rf (α := Batch) (fun k G' L' => ∃ u zc, L' = [.row u 35 10 (T.take k).length zc, .blk b9 [u], .blk b5 [.int .i64 (most - ((allB (T.take k)).length : Int))]] ∧ Cells (BE G') 10 (T.take k) zc ∧ fitT T most k)
   (fun ex k G' L' => ∃ u zc, ex = .exit 1 ∧ L' = [.row u 35 10 (T.take k).length zc, .blk b9 [u]] ∧ Cells (BE G') 10 (T.take k) zc ∧ asks false most T = T.take k) (eE) F62.enters (noRegs_row (noRegs_blk (noRegs_blk noRegs_nil)))
   (fun i G G' L hg ⟨u, zc, h1, h2, h3⟩ => ⟨u, zc, h1, cells_imp h2 fun _ _ h => BE.le hg h, h3⟩) hit (fun G x args h => by obtain ⟨_, _, rfl⟩ := h; rfl) ⟨.slice none 0 0, [], by rw [hm0]; rfl, .nil, fit_0 T most⟩ ?_ ?_ ?_
 · rintro yl k x args G' L' hx hgl ⟨cs, hbe, rfl⟩ ⟨u, zc, rfl, hzc, hfit⟩ _
   have hkl : k < T.length := (List.getElem?_eq_some_iff.1 hx).1
   have hbe0 := hbe
   have hx0 := hok x (List.mem_of_getElem? hx)
   have hsz := Size_ok x cs G' hbe
   rw [sizeB, putB_0 hx0] at hsz
   obtain ⟨B, d, rfl, -⟩ := hbe
   unfold cellH at hbe0 hsz ⊢
   have htk : T.take (k + 1) = T.take k ++ [x] := take_snoc' hx
   have hkl2 : (T.take k).length ≤ T.length := by rw [List.length_take]; omega
   have hkl3 : (T.take k).length = k := by rw [List.length_take]; omega
   have hle := allB_take_le T (k + 1)
   have hcut := asks_cut (m := most) hx
   have e : (allB (T.take (k + 1))).length = (allB (T.take k)).length + (bytesB x).length := by rw [allB_take hx, List.length_append]
   have hw : IntKind.i64.wrap (most - ((allB (T.take k)).length : Int) - ((bytesB x).length : Int)) = most - ((allB (T.take (k + 1))).length : Int) := by rw [w64_id] <;> omega
   unfold fitT at hfit
   rw [hcut] at hfit
   dsimp only at hsz
   (refine sI ?_; try with_reducible exact True.intro)
   (intros; try refine go_st ?_); refine go_r 0 0 (by decide) ?_; (refine sJ c17r10.eq_1 ?_; try with_reducible exact True.intro)
   intro bb
   refine go_nil (rnd_a ?_)
   refine go_gx (gx_knowS (.tail _ (.head _))) ?_
   rintro h' ⟨rfl, A2, c2, rfl, -, -⟩
   (intros; try refine go_st ?_); refine go_y _ (List.Sublist.refl _) (by decide) ?_; (refine sJ c17r11.eq_1 ?_; try with_reducible exact True.intro)
   refine ⟨_, ldN_blk (.tail _ (.tail _ (.tail _ (.head _)))) rfl, ?_⟩
   (refine sI ?_; try with_reducible exact True.intro)
   refine (hsz _ _).mono ?_; rintro _ _ ⟨rfl, rfl⟩; (refine sI ?_; try with_reducible exact True.intro)
   (refine sJ2 c17r12.eq_1 @hw ?_; try with_reducible exact True.intro)
   refine stX_blk [_, _, _] [] rfl (by simp) ⟨rfl, rfl⟩ ?_
   (refine sI ?_; try with_reducible exact True.intro)
   (repeat (with_reducible intro _))
   generalize hnn : most - ((allB (T.take (k + 1))).length : Int) = nn at *
   (repeat (with_reducible intro _)); try refine go_seq ?_
   refine go_cut (fun e h => ¬ (0 < k ∧ nn < 0) ∧ e 9 = .pointer (some ⟨b9, 0, none⟩) ∧ h = ⟨G', [.reg 10 [.int .i64 x.base, .int .i64 x.last, .int .i64 x.src, .int .i64 x.epoch, .int .i64 x.pid, .int .i64 x.gen, .int .i64 x.seq, .bool x.txn, .int .i64 x.ctl, .slice B x.recs.length d], .row (.slice A2 (T.take k).length c2) 35 10 (T.take k).length zc, .blk b9 [.slice A2 (T.take k).length c2], .blk b5 [.int .i64 nn]], []⟩) ?_ ?_
   · (intros; try refine go_st ?_); refine go_r 32 38 (by decide) ?_; (refine sJ c17r13.eq_1 ?_; try with_reducible exact True.intro)
     refine ⟨_, ldN_blk (.tail _ (.tail _ (.head _))) rfl, ?_⟩
     (refine sI ?_; try with_reducible exact True.intro)
     refine gd (fun k4 => ?_) (fun k4 => ?_)
     · have k4 : 0 < k := by have := of_decide_eq_true k4; omega
       (refine sI ?_; try with_reducible exact True.intro)
       refine ⟨_, ldN_blk (.tail _ (.tail _ (.tail _ (.head _)))) rfl, ?_⟩
       (refine sI ?_; try with_reducible exact True.intro)
       (intros; try refine go_st ?_); refine go_c ?_; (refine sI ?_; try with_reducible exact True.intro)
       refine gb (fun k5 => ?_) (fun k5 => ?_)
       · have k5 := of_decide_eq_true k5
         rw [if_pos ⟨k4, k5⟩, List.append_nil] at hfit
         refine go_exit ?_
         (refine sI ?_; try with_reducible exact True.intro)
         exact rnd_e _ (.cons _ (.cons_cons _ (.cons_cons _ (List.nil_sublist _)))) (noRegs_row (noRegs_blk noRegs_nil)) ⟨_, zc, rfl, rfl, hzc, hfit⟩
       · have k5 := of_decide_eq_false k5
         (intros; try refine go_st ?_)
         exact go_l ⟨fun h => k5 h.2, eE, rfl⟩
     · have k4 : ¬ 0 < k := by have := of_decide_eq_false k4; omega
       (refine sI ?_; try with_reducible exact True.intro)
       (intros; try refine go_st ?_); refine go_c ?_; (refine sI ?_; try with_reducible exact True.intro)
       (intros; try refine go_st ?_)
       exact go_l ⟨fun h => k4 h.1, eE, rfl⟩
   rintro e h ⟨hno, e9, rfl⟩
   refine go_keep [9] ?_
   (refine sJ @e9 ?_; try with_reducible exact True.intro)
   rw [if_neg hno] at hfit
   (intros; try refine go_st ?_); refine go_r 39 43 (by decide) ?_; (refine sJ c17r14.eq_1 ?_; try with_reducible exact True.intro)
   refine ⟨_, ldN_blk (.tail _ (.tail _ (.head _))) rfl, ?_⟩
   (refine sI ?_; try with_reducible exact True.intro)
   intro bk hbk
   refine app1 (L1 := [_]) (L2 := [_, _]) (E := BE G') (x := x) rfl hbe0 rfl (by simp [Value.oneCell']) hzc (by omega) (by omega) fun A' c' zc' hzc' => ?_
   rw [← htk] at hzc' ⊢
   (refine sI ?_; try with_reducible exact True.intro)
   refine stX_blk [_, _, _] [_] rfl (by simp) ⟨rfl, rfl⟩ ?_
   (refine sI ?_; try with_reducible exact True.intro)
   (intros; try refine go_st ?_)
   refine go_nil (rnd_n _ (.cons _ (.cons _ (List.Sublist.refl _))) (noRegs_row (noRegs_blk (noRegs_blk noRegs_nil))) ⟨_, zc', rfl, hzc', ?_⟩)
   unfold fitT
   rw [hnn, hfit, htk, List.append_assoc]
   rfl
 · rintro G' L' dd hgl ⟨u, zc, rfl, hzc, hfit⟩ _
   unfold fitT at hfit
   rw [List.take_length, List.drop_length] at hfit
   rw [List.take_length] at hzc ⊢
   refine go_b ?_
   have hT : asks false most T = T := by simpa [asks] using hfit
   rw [hT]
   refine go_gx (gx_knowS (.head _)) ?_
   rintro h' ⟨rfl, A2, c2, rfl, -, -⟩
   refine go_gx (gx_slv_at [] _ (by decide) hzc) ?_
   rintro h' ⟨G3, rfl, hg3, hv3⟩
   (intros; try refine go_st ?_); refine go_r 43 44 (by decide) ?_; (refine sJ c17r15.eq_1 ?_; try with_reducible exact True.intro)
   refine ⟨_, ldN_blk (.head _) rfl, ?_⟩
   (refine sI ?_; try with_reducible exact True.intro)
   (intros; try refine go_st ?_)
   refine go_ret (retQ_v rfl ?_); simp only [push_cast, Nat.reduceBEq]
   exact ⟨_, _, rfl, hv3.le (.refl _) fun _ _ h => BE.le hg3 h⟩
 · rintro ex k G' L' d hkl hgl ⟨u, zc, rfl, rfl, hzc, hfit⟩ _
   rw [hfit]
   (refine sI ?_; try with_reducible exact True.intro)
   refine go_gx (gx_knowS (.head _)) ?_
   rintro h' ⟨rfl, A2, c2, rfl, -, -⟩
   refine go_gx (gx_slv_at [] _ (by decide) hzc) ?_
   rintro h' ⟨G3, rfl, hg3, hv3⟩
   (intros; try refine go_st ?_); refine go_r 43 44 (by decide) ?_; (refine sJ c17r15.eq_1 ?_; try with_reducible exact True.intro)
   refine ⟨_, ldN_blk (.head _) rfl, ?_⟩
   (refine sI ?_; try with_reducible exact True.intro)
   (intros; try refine go_st ?_)
   refine go_ret (retQ_v rfl ?_); simp only [push_cast, Nat.reduceBEq]
   exact ⟨_, _, rfl, hv3.le (.refl _) fun _ _ h => BE.le hg3 h⟩
theorem F54 : Fun Try.prog 54 22 v54 c54 o54 := Fun.mk' Try.func54 Try.ntmps54 (by kernel_rfl) (by kernel_rfl) s54 q54
theorem F55 : Fun Try.prog 55 33 v55 c55 o55 := Fun.mk' Try.func55 Try.ntmps55 (by kernel_rfl) (by kernel_rfl) s55 q55
theorem F31 : Fun Try.prog 31 12 v31 c31 o31 := Fun.mk' Try.func31 Try.ntmps31 (by kernel_rfl) (by kernel_rfl) s31 q31
theorem F57 : Fun Try.prog 57 24 v57 c57 o57 := Fun.mk' Try.func57 Try.ntmps57 (by kernel_rfl) (by kernel_rfl) s57 q57
theorem F59 : Fun Try.prog 59 8 v59 c59 o59 := Fun.mk' Try.func59 Try.ntmps59 (by kernel_rfl) (by kernel_rfl) s59 q59
theorem F32 : Fun Try.prog 32 21 v32 c32 o32 := Fun.mk' Try.func32 Try.ntmps32 (by kernel_rfl) (by kernel_rfl) s32 q32
theorem F58 : Fun Try.prog 58 19 v58 c58 o58 := Fun.mk' Try.func58 Try.ntmps58 (by kernel_rfl) (by kernel_rfl) s58 q58
def cutL (l : Lg) (off : Int) (p : Lg) : Lg × Int := if chkL l = 0 then if betw l off = true then (p, 0) else (noneL, 90) else (noneL, chkL l)
def LgV (p : Lg) (G : Nat → Option Obj) (r : Value) : Prop := ∃ cs, r = .agg cs.toArray ∧ LE G p cs
theorem cut_ok (l : Lg) (off : Int) (f : Nat) (cap : Array Value) (p : Lg) (cs : List Value) (G : Nat → Option Obj) (hl : LE G l cs) (hb : smL l.segs) (hm : l.segs.length ≤ 1000000)
   (hf : chkL l = 0 → betw l off = true → FnD Try.prog f cap G (LgV p)) :
   FnD Try.prog 54 #[.agg cs.toArray, .int .i64 off, .func (.func f) #[] cap] G (LgR (cutL l off p)) := by
 have hl0 := hl
 have hchk := ChkL_ok l cs G hl hb
 have hbt := between_ok l off cs G hl hb
 obtain ⟨A, c, rfl, hsl, hi, hj⟩ := hl
 refine F54.fnD (by simp) (go_of ?_)
 unfold c54
 unfold cellL at hchk hbt hl0 ⊢
 (intros; try refine go_st ?_); refine go_r 0 0 (by decide) ?_; (refine sJ c54r0.eq_1 ?_; try with_reducible exact True.intro)
 (intros; try refine go_st ?_); refine go_r 9 11 (by decide) ?_; (refine sJ c54r1.eq_1 ?_; try with_reducible exact True.intro)
 refine (hchk _ _).mono ?_; rintro _ _ ⟨rfl, rfl⟩; (refine sI ?_; try with_reducible exact True.intro)
 (intros; try refine go_st ?_); refine go_r 11 12 (by decide) ?_; (refine sJ c54r2.eq_1 ?_; try with_reducible exact True.intro)
 (intros; try refine go_st ?_); refine go_c ?_; (refine sI ?_; try with_reducible exact True.intro)
 refine gb (fun k1 => ?_) (fun k1 => ?_)
 · have k1 := of_decide_eq_true k1
   (intros; try refine go_st ?_); refine go_r 13 15 (by decide) ?_; (refine sJ c54r3.eq_1 ?_; try with_reducible exact True.intro)
   (intros; try refine go_st ?_)
   refine go_ret (retQ_v rfl ?_); simp only [push_cast, Nat.reduceBEq]
   rw [cutL, if_neg k1]
   exact noneL_r
 have k1 : chkL l = 0 := by simpa using k1
 obtain ⟨c1, c2, c3, c4⟩ := chkL_0 k1
 (repeat first | (with_reducible intro _) | refine go_skip ?_ | refine go_b ?_)
 (intros; try refine go_st ?_); refine go_r 15 18 (by decide) ?_; (refine sJ c54r4.eq_1 ?_; try with_reducible exact True.intro)
 refine (hbt c2 hm _ _).mono ?_; rintro _ _ ⟨rfl, rfl⟩; (refine sI ?_; try with_reducible exact True.intro)
 (intros; try refine go_st ?_); refine go_c ?_; (refine sI ?_; try with_reducible exact True.intro)
 refine gb (fun k2 => ?_) (fun k2 => ?_)
 · have k2 : betw l off = false := by simpa using k2
   (intros; try refine go_st ?_); refine go_r 19 20 (by decide) ?_; (refine sJ c54r5.eq_1 ?_; try with_reducible exact True.intro)
   (intros; try refine go_st ?_)
   refine go_ret (retQ_v rfl ?_); simp only [push_cast, Nat.reduceBEq]
   rw [cutL, if_pos k1, if_neg (by rw [k2]; simp)]
   exact noneL_r
 have k2 : betw l off = true := by simpa using k2
 (repeat first | (with_reducible intro _) | refine go_skip ?_ | refine go_b ?_)
 (intros; try refine go_st ?_); refine go_r 20 22 (by decide) ?_; (refine sJ c54r6.eq_1 ?_; try with_reducible exact True.intro)
 refine .inl ⟨f, cap, rfl, ?_⟩
 rw [show (#[] ++ cap : Array Value) = cap by simp]
 refine (hf k1 k2 _ _).mono ?_
 rintro r h' ⟨G1, rfl, hg1, cs, rfl, hle⟩
 obtain ⟨A1, c1, rfl, hs1⟩ := hle
 unfold cellL
 (refine sI ?_; try with_reducible exact True.intro)
 (intros; try refine go_st ?_)
 refine go_ret (retQ_v rfl ?_); simp only [push_cast, Nat.reduceBEq]
 rw [cutL, if_pos k1, if_pos k2]
 exact ⟨_, rfl, A1, c1, rfl, hs1⟩
def firstI {α : Type} (p : α → Bool) : List α → Nat → Int
 | [], _ => -1
 | x :: l, i => if p x = true then (i : Int) else firstI p l (i + 1)
theorem firstI_at {α : Type} {p : α → Bool} {l : List α} {k : Nat} {x : α} (h : l[k]? = some x) (i : Nat) : firstI p (l.drop k) i = if p x = true then (i : Int) else firstI p (l.drop (k + 1)) (i + 1) := by
 obtain ⟨h1, h2⟩ := List.getElem?_eq_some_iff.1 h
 rw [List.drop_eq_getElem_cons h1, h2, firstI]
theorem IndexFunc_ok (l : List Sg) (p : Sg → Bool) (f : Nat) (cap : Array Value) (v : Value) (G : Nat → Option Obj) (hl : SlV G (SE G) 2 v l) (hf : ∀ s cs, s ∈ l → SE G s cs → FnS Try.prog f (#[.agg cs.toArray] ++ cap) G (.bool (p s))) :
   FnS Try.prog 58 #[v, .func (.func f) #[] cap] G (.int .i64 (firstI p l 0)) := by
 obtain ⟨A, c, rfl, hc, hmx, hA⟩ := hl
 refine F58.fnS (by simp) (go_of ?_)
 unfold c58
 (intros; try refine go_st ?_); refine go_r 0 0 (by decide) ?_; (refine sJ c58r0.eq_1 ?_; try with_reducible exact True.intro)
 (intros; try refine go_st ?_); refine go_r 6 7 (by decide) ?_; (refine sJ c58r1.eq_1 ?_; try with_reducible exact True.intro)
 (intros; try refine go_st ?_)
 refine go_loop (fun e h => ∃ k : Nat, (k ≤ l.length ∧ firstI p l 0 = firstI p (l.drop k) k) ∧ e 8 = .int .i64 k ∧ e 7 = .int .i64 l.length ∧ e 0 = .slice A l.length c ∧ e 1 = .func (.func f) #[] cap ∧ h = ⟨G, [], []⟩) (fun e h => l.length - iv (e 8)) ?_ ?_
 · exact ⟨0, ⟨Nat.zero_le _, rfl⟩, eE, eE, eE, eE, rfl⟩
 rintro e h ⟨k, ⟨hk, hfi⟩, e8, e7, e0, e1, rfl⟩
 refine go_keep [0, 1, 7, 8] ?_
 (refine sJ4 @e0 @e1 @e7 @e8 ?_; try with_reducible exact True.intro)
 (intros; try refine go_st ?_); refine go_r 0 0 (by decide) ?_; (refine sJ c58r2.eq_1 ?_; try with_reducible exact True.intro)
 (intros; try refine go_st ?_); refine go_c ?_; (refine sI ?_; try with_reducible exact True.intro)
 refine gb (fun ht => ?_) (fun ht => ?_)
 · have ht : k < l.length := by have := of_decide_eq_true ht; omega
   have hw := inc_i k c (by omega) hmx
   obtain ⟨s, hs⟩ : ∃ s, l[k]? = some s := ⟨l[k], List.getElem?_eq_getElem (by omega)⟩
   rw [firstI_at hs] at hfi
   (repeat first | (with_reducible intro _) | refine go_skip ?_ | refine go_b ?_)
   (intros; try refine go_st ?_); refine go_r 10 11 (by decide) ?_; (refine sJ c58r3.eq_1 ?_; try with_reducible exact True.intro)
   (intros; try refine go_st ?_); refine go_r 11 16 (by decide) ?_; (refine sJ c58r4.eq_1 ?_; try with_reducible exact True.intro)
   refine hA.x_ld hs rfl rfl ?_
   rintro a1 ha1 cs hse
   have hcl := hf s cs (List.mem_of_getElem? hs) hse
   obtain ⟨B, d, rfl, hsb, hsi⟩ := hse
   unfold cellS at hcl ⊢
   (refine sI ?_; try with_reducible exact True.intro)
   refine .inl ⟨f, cap, rfl, ?_⟩
   refine (hcl _ _).mono ?_; rintro _ _ ⟨rfl, rfl⟩; (refine sI ?_; try with_reducible exact True.intro)
   (intros; try refine go_st ?_); refine go_c ?_; (refine sI ?_; try with_reducible exact True.intro)
   refine gb (fun k1 => ?_) (fun k1 => ?_)
   · rw [if_pos k1] at hfi
     (intros; try refine go_st ?_); refine go_r 17 18 (by decide) ?_; (refine sJ c58r5.eq_1 ?_; try with_reducible exact True.intro)
     (intros; try refine go_st ?_)
     refine go_ret (retQ_v rfl ?_); simp only [push_cast, Nat.reduceBEq]
     rw [hfi]
   · rw [if_neg (by rw [k1]; simp)] at hfi
     (repeat first | (with_reducible intro _) | refine go_skip ?_ | refine go_b ?_)
     (intros; try refine go_st ?_); refine go_r 18 19 (by decide) ?_; (refine sJ2 c58r6.eq_1 @hw ?_; try with_reducible exact True.intro)
     (intros; try refine go_st ?_)
     refine go_l ⟨⟨k + 1, ⟨by omega, hfi⟩, eE, eE, eE, eE, rfl⟩, ?_⟩
     (refine sI ?_; try with_reducible exact True.intro)
     omega
 · have ht : k = l.length := by have := of_decide_eq_false ht; omega
   subst ht
   rw [List.drop_length, firstI] at hfi
   refine go_exit ?_
   (refine sI ?_; try with_reducible exact True.intro)
   (intros; try refine go_st ?_); refine go_r 0 0 (by decide) ?_; (refine sJ c58r7.eq_1 ?_; try with_reducible exact True.intro)
   (intros; try refine go_st ?_)
   refine go_ret (retQ_v rfl ?_); simp only [push_cast, Nat.reduceBEq]
   rw [hfi]
theorem ownSg_d {P : Program} {f : FuncId} {args : Array Value} {G : Nat → Option Obj} {s : Sg} (hf : FnO P f args G [] (fun _ L' r => OwnSg s L' r)) : FnD P f args G (fun G' r => ∃ A c, r = .agg #[.int .i64 s.base, .slice A s.bytes.length c] ∧ SB G' (.slice A s.bytes.length c) s.bytes) :=
 FnO.fnD (L1 := []) (ownSg_sl hf) fun G' L' v ⟨A, c, zc, h1, _, h2, h3⟩ _ L D => by
   subst h2
   exact (gx_slv (by decide) h3).mono fun h' ⟨G2, e1, e2, e3⟩ => ⟨G2, e1, e2, A, c, h1, e3⟩
theorem truS_take {l : List Sg} {k : Nat} {s : Sg} (to : Int) (h : l[k]? = some s) : truS (l.take (k + 1)) to = truS (l.take k) to ++ if s.base < to then [cutS s to] else [] := by
 unfold truS
 rw [take_snoc' h, List.filter_append, List.map_append]
 congr 1
 by_cases hh : s.base < to <;> simp [hh]
theorem truS_len (l : List Sg) (to : Int) : (truS l to).length ≤ l.length := by
 unfold truS
 rw [List.length_map]
 exact List.length_filter_le _ _
theorem Truncate1_ok (l : Lg) (to : Int) (A : Option Addr) (c b2 b3 : Nat) (G : Nat → Option Obj) (hsl : SlV G (SE G) 2 (.slice A l.segs.length c) l.segs) (hi : I64 l.limit) (hj : I64 l.start) (hb : smL l.segs) (hm : l.segs.length ≤ 1000) (hto : I64 to)
   (h2 : ∀ j u, ([.int .i64 l.limit, .int .i64 l.start, .slice A l.segs.length c] : List Value)[j]? = some u → cellG G (Addr.add ⟨b2, 0, none⟩ j) = some u) (h3 : cellG G ⟨b3, 0, none⟩ = some (.int .i64 to)) :
   FnD Try.prog 55 #[.pointer (some ⟨b2, 0, none⟩), .pointer (some ⟨b3, 0, none⟩)] G (LgV ⟨l.limit, l.start, truT l.segs to⟩) := by
 have hsl0 := hsl
 have h22 := h2 2 _ rfl
 rw [add_off] at h22
 obtain ⟨A0, c0, he, hc, hmx, hA⟩ := hsl
 cases he
 refine F55.fnD (by simp) (go_of ?_)
 unfold c55
 (intros; try refine go_st ?_); refine go_r 0 0 (by decide) ?_; (refine sJ c55r0.eq_1 ?_; try with_reducible exact True.intro)
 (intros; try refine go_st ?_); refine go_r 0 0 (by decide) ?_; (refine sJ c55r1.eq_1 ?_; try with_reducible exact True.intro)
 (intros; try refine go_st ?_); refine go_r 6 7 (by decide) ?_; (refine sJ c55r2.eq_1 ?_; try with_reducible exact True.intro)
 refine ⟨_, ⟨_, rfl, .g h22⟩, ?_⟩
 (refine sI ?_; try with_reducible exact True.intro)
 (repeat (with_reducible intro _))
 refine go_ghost (ghost_nil none 53 2) ?_
 refine go_cut (fun e h => ∃ (G' : Nat → Option Obj) (u : Value) (zc : List Value), (Gle G G' ∧ Cells (SE G') 2 (truS l.segs to) zc) ∧ e 3 = u ∧ e 0 = .pointer (some ⟨b2, 0, none⟩) ∧ e 1 = .pointer (some ⟨b3, 0, none⟩) ∧ h = ⟨G', [.row u 53 2 (truS l.segs to).length zc, .reg 2 [.int .i64 0, .int .i64 0, .slice none 0 0]], []⟩) ?_ ?_
 · (intros; try refine go_st ?_)
   refine go_loop (fun e h => ∃ (k : Nat) (G' : Nat → Option Obj) (u : Value) (zc : List Value), (k ≤ l.segs.length ∧ Gle G G' ∧ Cells (SE G') 2 (truS (l.segs.take k) to) zc) ∧ e 9 = .int .i64 k ∧ e 8 = .int .i64 l.segs.length ∧ e 7 = .slice A l.segs.length c ∧ e 3 = u ∧ e 0 = .pointer (some ⟨b2, 0, none⟩) ∧ e 1 = .pointer (some ⟨b3, 0, none⟩) ∧ h = ⟨G', [.row u 53 2 (truS (l.segs.take k) to).length zc, .reg 2 [.int .i64 0, .int .i64 0, .slice none 0 0]], []⟩) (fun e h => l.segs.length - iv (e 9)) ?_ ?_
   · exact ⟨0, G, .slice none 0 0, [], ⟨Nat.zero_le _, .refl _, .nil⟩, eE, eE, eE, eE, eE, eE, rfl⟩
   rintro e h ⟨k, G', u, zc, ⟨hk, hg', hzc⟩, e9, e8, e7, e3, e0, e1, rfl⟩
   refine go_keep [0, 1, 3, 7, 8, 9] ?_
   (refine sJ6 @e0 @e1 @e3 @e7 @e8 @e9 ?_; try with_reducible exact True.intro)
   (intros; try refine go_st ?_); refine go_r 0 0 (by decide) ?_; (refine sJ c55r3.eq_1 ?_; try with_reducible exact True.intro)
   (intros; try refine go_st ?_); refine go_c ?_; (refine sI ?_; try with_reducible exact True.intro)
   refine gb (fun ht => ?_) (fun ht => ?_)
   · have ht : k < l.segs.length := by have := of_decide_eq_true ht; omega
     have hw := inc_i k c (by omega) hmx
     obtain ⟨s, hs⟩ : ∃ s, l.segs[k]? = some s := ⟨l.segs[k], List.getElem?_eq_getElem (by omega)⟩
     have hbs := hb s (List.mem_of_getElem? hs)
     have htr := truS_take to hs
     have hA' := hA.le hg' (E' := SE G') fun _ _ h => SE.le hg' h
     have h3' := cellG_le hg' h3
     have hlen := truS_len (l.segs.take k) to
     rw [List.length_take] at hlen
     (repeat first | (with_reducible intro _) | refine go_skip ?_ | refine go_b ?_)
     (intros; try refine go_st ?_); refine go_r 11 13 (by decide) ?_; (refine sJ c55r4.eq_1 ?_; try with_reducible exact True.intro)
     refine hA'.x_ld hs rfl rfl ?_
     rintro a1 ha1 cs hse
     have hcut := ownSg_d (Cut_ok s to cs G' hse (by omega) hto)
     obtain ⟨B, d, rfl, hsb, hsi⟩ := hse
     unfold cellS at hcut ⊢
     (refine sI ?_; try with_reducible exact True.intro)
     (intros; try refine go_st ?_); refine go_r 14 16 (by decide) ?_; (refine sJ c55r5.eq_1 ?_; try with_reducible exact True.intro)
     refine ⟨_, ⟨_, rfl, .g h3'⟩, ?_⟩
     (refine sI ?_; try with_reducible exact True.intro)
     (intros; try refine go_st ?_); refine go_c ?_; (refine sI ?_; try with_reducible exact True.intro)
     refine gb (fun k1 => ?_) (fun k1 => ?_)
     · have k1 := of_decide_eq_true k1
       rw [if_pos k1] at htr
       (intros; try refine go_st ?_); refine go_r 17 23 (by decide) ?_; (refine sJ c55r6.eq_1 ?_; try with_reducible exact True.intro)
       refine ⟨_, ⟨_, rfl, .g h3'⟩, ?_⟩
       (refine sI ?_; try with_reducible exact True.intro)
       refine (hcut _ _).mono ?_
       rintro r h' ⟨G2, rfl, hg2, A2, c2, rfl, hs2⟩
       (refine sI ?_; try with_reducible exact True.intro)
       intro bk hbk
       refine app1 (L1 := [_]) (L2 := [_]) (E := SE G2) (x := cutS s to) rfl ⟨A2, c2, rfl, hs2, hsi⟩ rfl (by simp [Value.oneCell']) (cells_imp hzc fun _ _ h => SE.le hg2 h) (by omega) (by omega) fun A' c' zc' hzc' => ?_
       rw [← htr] at hzc' ⊢
       (refine sI ?_; try with_reducible exact True.intro)
       (repeat (with_reducible intro _))
       refine go_ghost (ghost_sub (.cons _ (.cons _ (List.Sublist.refl _)))) ?_
       (intros; try refine go_st ?_); refine go_r 23 24 (by decide) ?_; (refine sJ2 c55r7.eq_1 @hw ?_; try with_reducible exact True.intro)
       (intros; try refine go_st ?_)
       refine go_l ⟨⟨k + 1, G2, _, zc', ⟨by omega, hg'.trans hg2, hzc'⟩, eE, eE, eE, eE, eE, eE, rfl⟩, ?_⟩
       (refine sI ?_; try with_reducible exact True.intro)
       omega
     · have k1 := of_decide_eq_false k1
       rw [if_neg k1, List.append_nil] at htr
       (repeat first | (with_reducible intro _) | refine go_skip ?_ | refine go_b ?_)
       refine go_ghost (ghost_sub (L' := [.row u 53 2 (truS (l.segs.take k) to).length zc, .reg 2 [.int .i64 0, .int .i64 0, .slice none 0 0]]) (.cons _ (List.Sublist.refl _))) ?_
       (intros; try refine go_st ?_); refine go_r 23 24 (by decide) ?_; (refine sJ2 c55r7.eq_1 @hw ?_; try with_reducible exact True.intro)
       (intros; try refine go_st ?_)
       rw [← htr] at hzc ⊢
       refine go_l ⟨⟨k + 1, G', _, zc, ⟨by omega, hg', hzc⟩, eE, eE, eE, eE, eE, eE, rfl⟩, ?_⟩
       (refine sI ?_; try with_reducible exact True.intro)
       omega
   · have ht : k = l.segs.length := by have := of_decide_eq_false ht; omega
     subst ht
     rw [List.take_length] at hzc ⊢
     refine go_exit ?_
     (refine sI ?_; try with_reducible exact True.intro)
     (repeat first | (with_reducible intro _) | refine go_skip ?_ | refine go_b ?_)
     exact go_l ⟨G', u, zc, ⟨hg', hzc⟩, eE, eE, eE, rfl⟩
 rintro e h ⟨G1, u, zc, ⟨hg1, hzc⟩, e3, e0, e1, rfl⟩
 refine go_keep [0, 1, 3] ?_
 (refine sJ3 @e0 @e1 @e3 ?_; try with_reducible exact True.intro)
 (repeat (with_reducible intro _))
 (repeat (with_reducible intro _)); try refine go_seq ?_
 refine go_gx (gx_knowS (.head _)) ?_
 rintro h' ⟨rfl, A2, c2, rfl, -, -⟩
 refine go_cut (fun e h => ∃ (A2 : Option Addr) (c2 : Nat) (zc : List Value) (Lh : List Kx.Item), Cells (SE G1) 2 (truT l.segs to) zc ∧ e 3 = .slice A2 (truT l.segs to).length c2 ∧ e 0 = .pointer (some ⟨b2, 0, none⟩) ∧ e 1 = .pointer (some ⟨b3, 0, none⟩) ∧ h = ⟨G1, Lh, []⟩ ∧ ([.row (.slice A2 (truT l.segs to).length c2) 53 2 (truT l.segs to).length zc, .reg 2 [.int .i64 0, .int .i64 0, .slice none 0 0]] : List Kx.Item).Sublist Lh) ?_ ?_
 · (intros; try refine go_st ?_); refine go_r 24 26 (by decide) ?_; (refine sJ c55r8.eq_1 ?_; try with_reducible exact True.intro)
   (intros; try refine go_st ?_); refine go_c ?_; (refine sI ?_; try with_reducible exact True.intro)
   refine gb (fun k1 => ?_) (fun k1 => ?_)
   · have k1 : truS l.segs to = [] := List.eq_nil_of_length_eq_zero (by have := of_decide_eq_true k1; omega)
     have ht : truT l.segs to = [⟨to, []⟩] := by rw [truT, if_pos k1]
     rw [ht]
     (intros; try refine go_st ?_); refine go_r 27 30 (by decide) ?_; (refine sJ c55r9.eq_1 ?_; try with_reducible exact True.intro)
     refine ⟨_, ⟨_, rfl, .g (cellG_le hg1 h3)⟩, ?_⟩
     (refine sI ?_; try with_reducible exact True.intro)
     intro bk hbk
     (refine sI ?_; try with_reducible exact True.intro)
     (intros; try refine go_st ?_)
     exact go_l ⟨_, _, _, _, Cells.one (E := SE G1) (x := ⟨to, []⟩) ⟨none, 0, rfl, SB.nil, hto⟩ rfl, eE, eE, eE, rfl, .cons_cons _ (.cons _ (List.Sublist.refl _))⟩
   · have k1 : ¬ truS l.segs to = [] := fun h => by rw [h] at k1; simp at k1
     have ht : truT l.segs to = truS l.segs to := by rw [truT, if_neg k1]
     rw [ht]
     (repeat first | (with_reducible intro _) | refine go_skip ?_ | refine go_b ?_)
     exact go_l ⟨_, _, _, _, hzc, eE, eE, eE, rfl, List.Sublist.refl _⟩
 rintro e h ⟨A2, c2, zc, Lh, hzc, e3, e0, e1, rfl, hsub⟩
 refine go_keep [0, 1, 3] ?_
 (refine sJ3 @e0 @e1 @e3 ?_; try with_reducible exact True.intro)
 (repeat (with_reducible intro _))
 refine go_ghost (ghost_sub hsub) ?_
 refine go_gx (gx_slv_at [] _ (by decide) hzc) ?_
 rintro h' ⟨G2, rfl, hg2, hv2⟩
 have hg02 := hg1.trans hg2
 (intros; try refine go_st ?_); refine go_r 30 33 (by decide) ?_; (refine sJ c55r10.eq_1 ?_; try with_reducible exact True.intro)
 refine ⟨_, ⟨_, [.int .i64 l.limit, .int .i64 l.start, .slice A l.segs.length c], rfl, rfl, rfl, fun j u hu => .g (cellG_le hg02 (h2 j u hu))⟩, ?_⟩
 (refine sI ?_; try with_reducible exact True.intro)
 refine (with_ok _ _ _ _ _ _ _ _ _ _ _).mono ?_; rintro _ _ ⟨rfl, rfl⟩; (refine sI ?_; try with_reducible exact True.intro)
 (intros; try refine go_st ?_)
 refine go_ret (retQ_v rfl ?_); simp only [push_cast, Nat.reduceBEq]
 exact ⟨_, rfl, A2, c2, rfl, hv2.le (.refl _) fun _ _ h => SE.le hg2 h, hi, hj⟩
theorem Truncate_ok (l : Lg) (to : Int) (cs : List Value) (G : Nat → Option Obj) (hl : LE G l cs) (hb : smL l.segs) (hm : l.segs.length ≤ 1000) (hto : I64 to) :
   FnD Try.prog 31 #[.agg cs.toArray, .int .i64 to] G (LgR (truL l to)) := by
 have hl0 := hl
 obtain ⟨A, c, rfl, hsl, hi, hj⟩ := hl
 refine F31.fnD (by simp) (go_of ?_)
 unfold c31
 unfold cellL at hl0 ⊢
 (intros; try refine go_st ?_); refine go_r 0 0 (by decide) ?_; (refine sJ c31r0.eq_1 ?_; try with_reducible exact True.intro)
 intro b2 hb2 b3 hb3
 (intros; try refine go_st ?_)
 refine go_gx (gx_blk_at [_] _) ?_
 rintro h' ⟨G1, rfl, hg1, f3⟩
 refine go_gx (gx_blk_at [_] _) ?_
 rintro h' ⟨G2, rfl, hg2, f2⟩
 have e3 := cellG_le hg2 (f3 0 _ rfl)
 rw [add_off] at e3
 have hg02 := hg1.trans hg2
 (intros; try refine go_st ?_); refine go_r 6 12 (by decide) ?_; (refine sJ c31r1.eq_1 ?_; try with_reducible exact True.intro)
 refine ⟨_, ⟨_, [.int .i64 l.limit, .int .i64 l.start, .slice A l.segs.length c], rfl, rfl, rfl, fun j u hu => .g (f2 j u hu)⟩, ?_⟩
 (refine sI ?_; try with_reducible exact True.intro)
 refine ⟨_, ⟨_, rfl, .g e3⟩, ?_⟩
 (refine sI ?_; try with_reducible exact True.intro)
 refine (cut_ok l to 55 _ _ _ G2 (LE.le hg02 hl0) hb (by omega) (fun _ _ => Truncate1_ok l to A c b2 b3 G2 (SlSE.le hg02 hsl) hi hj hb hm hto f2 e3) _ _).mono ?_
 rintro r h' ⟨G3, rfl, hg3, cs, rfl, hle⟩
 have hle0 := hle
 obtain ⟨A3, c3, rfl, hs3⟩ := hle
 unfold cellL
 (refine sI ?_; try with_reducible exact True.intro)
 (intros; try refine go_st ?_)
 refine go_ret (retQ_v rfl ?_); simp only [push_cast, Nat.reduceBEq]
 exact ⟨_, rfl, hle0⟩
theorem Trim11_ok (st : Int) (s : Sg) (b : Nat) (cs : List Value) (G : Nat → Option Obj) (hs : SE G s cs) (hb : s.bytes.length ≤ 1000000) (h : cellG G ⟨b, 0, none⟩ = some (.int .i64 st)) :
   FnS Try.prog 59 #[.agg cs.toArray, .pointer (some ⟨b, 0, none⟩)] G (.bool (decide (st < endB s))) := by
 have hend := End_ok s cs G hs hb
 obtain ⟨A, c, rfl, hl, hi⟩ := hs
 refine F59.fnS (by simp) (go_of ?_)
 unfold c59
 unfold cellS at hend ⊢
 (intros; try refine go_st ?_); refine go_r 0 0 (by decide) ?_; (refine sJ c59r0.eq_1 ?_; try with_reducible exact True.intro)
 (intros; try refine go_st ?_); refine go_x _ (List.Sublist.refl _) (by decide) ?_; (refine sJ c59r1.eq_1 ?_; try with_reducible exact True.intro)
 refine ⟨_, ⟨_, rfl, .g h⟩, ?_⟩
 (refine sI ?_; try with_reducible exact True.intro)
 refine (hend _ _).mono ?_; rintro _ _ ⟨rfl, rfl⟩; (refine sI ?_; try with_reducible exact True.intro)
 (intros; try refine go_st ?_)
 refine go_ret (retQ_v rfl ?_); simp only [push_cast, Nat.reduceBEq]
theorem trm_at (st : Int) : ∀ (l : List Sg) (i : Nat), l ≠ [] → (firstI (fun s => decide (st < endB s)) (l.take (l.length - 1)) i = -1 ∧ trmN st l = l.length - 1) ∨ (firstI (fun s => decide (st < endB s)) (l.take (l.length - 1)) i = ((i + trmN st l : Nat) : Int) ∧ trmN st l < l.length - 1)
 | [], i, h => absurd rfl h
 | [s], i, h => .inl ⟨rfl, rfl⟩
 | s :: t :: l, i, h => by
   have e : (s :: t :: l).take ((s :: t :: l).length - 1) = s :: (t :: l).take ((t :: l).length - 1) := by simp [List.take_succ_cons]
   rw [e, firstI, trmN]
   by_cases hh : st < endB s
   · rw [if_pos (decide_eq_true hh), if_neg (by omega)]
     exact .inr ⟨by simp, by simp⟩
   · rw [if_neg (by simpa using hh), if_pos (by omega)]
     rcases trm_at st (t :: l) (i + 1) (by simp) with ⟨h1, h2⟩ | ⟨h1, h2⟩
     · exact .inl ⟨h1, by rw [h2]; simp⟩
     · refine .inr ⟨by rw [h1]; omega, by simp only [List.length_cons] at h2 ⊢; omega⟩
theorem Trim1_ok (l : Lg) (st : Int) (A : Option Addr) (c b2 b3 : Nat) (G : Nat → Option Obj) (hsl : SlV G (SE G) 2 (.slice A l.segs.length c) l.segs) (hi : I64 l.limit) (hj : I64 l.start) (hb : smL l.segs) (hn : l.segs ≠ []) (hm : l.segs.length ≤ 1000) (hst : I64 st)
   (h2 : ∀ j u, ([.int .i64 l.limit, .int .i64 l.start, .slice A l.segs.length c] : List Value)[j]? = some u → cellG G (Addr.add ⟨b2, 0, none⟩ j) = some u) (h3 : cellG G ⟨b3, 0, none⟩ = some (.int .i64 st)) :
   FnD Try.prog 57 #[.pointer (some ⟨b2, 0, none⟩), .pointer (some ⟨b3, 0, none⟩)] G (LgV ⟨l.limit, st, l.segs.drop (trmN st l.segs)⟩) := by
 have hsl0 := hsl
 have h22 := h2 2 _ rfl
 have h20 := h2 0 _ rfl
 rw [add_off] at h22 h20
 obtain ⟨A0, c0, he, hc, hmx, hA⟩ := hsl
 cases he
 have h0 : 0 < l.segs.length := List.length_pos_iff.2 hn
 have ht1 : ((l.segs.length : Int) - 1).toNat = l.segs.length - 1 := by omega
 have hpre := SlV.pre (l.segs.length - 1) hsl0 (by omega)
 have hix := IndexFunc_ok (l.segs.take (l.segs.length - 1)) (fun s => decide (st < endB s)) 59 #[.pointer (some ⟨b3, 0, none⟩)] _ G hpre fun s cs hm hs => Trim11_ok st s b3 cs G hs (by have := hb s (List.mem_of_mem_take hm); omega) h3
 have htr := trm_at st l.segs 0 hn
 refine F57.fnD (by simp) (go_of ?_)
 unfold c57
 (intros; try refine go_st ?_); refine go_r 0 0 (by decide) ?_; (refine sJ c57r0.eq_1 ?_; try with_reducible exact True.intro)
 (intros; try refine go_st ?_); refine go_x _ (List.Sublist.refl _) (by decide) ?_; (refine sJ c57r1.eq_1 ?_; try with_reducible exact True.intro)
 refine ⟨_, ⟨_, rfl, .g h22⟩, ?_⟩
 (refine sI ?_; try with_reducible exact True.intro)
 refine ⟨_, ⟨_, [.int .i64 l.limit, .int .i64 l.start, .slice A l.segs.length c], rfl, rfl, rfl, fun j u hu => .g (h2 j u hu)⟩, ?_⟩
 (refine sI ?_; try with_reducible exact True.intro)
 refine (last_ok l A c _ (by omega) _ _).mono ?_; rintro _ _ ⟨rfl, rfl⟩; (refine sI ?_; try with_reducible exact True.intro)
 refine ⟨by omega, ?_⟩
 (refine sJ @ht1 ?_; try with_reducible exact True.intro)
 refine (hix _ _).mono ?_; rintro _ _ ⟨rfl, rfl⟩; (refine sI ?_; try with_reducible exact True.intro)
 (repeat (with_reducible intro _))
 (repeat (with_reducible intro _)); try refine go_seq ?_
 have hle : trmN st l.segs ≤ l.segs.length := by omega
 refine go_cut (fun e h => e 3 = .int .i64 ((trmN st l.segs : Nat) : Int) ∧ e 0 = .pointer (some ⟨b2, 0, none⟩) ∧ e 1 = .pointer (some ⟨b3, 0, none⟩) ∧ h = ⟨G, [.reg 2 [.int .i64 0, .int .i64 0, .slice none 0 0]], []⟩) ?_ ?_
 · generalize firstI (fun s => decide (st < endB s)) (l.segs.take (l.segs.length - 1)) 0 = fi at *
   (intros; try refine go_st ?_); refine go_r 11 12 (by decide) ?_; (refine sJ c57r2.eq_1 ?_; try with_reducible exact True.intro)
   (intros; try refine go_st ?_); refine go_c ?_; (refine sI ?_; try with_reducible exact True.intro)
   refine gb (fun k1 => ?_) (fun k1 => ?_)
   · have k1 := of_decide_eq_true k1
     have hfi : trmN st l.segs = l.segs.length - 1 := by omega
     have hfi2 : ((trmN st l.segs : Nat) : Int) = (l.segs.length : Int) - 1 := by omega
     rw [hfi2]
     (intros; try refine go_st ?_); refine go_r 13 15 (by decide) ?_; (refine sJ c57r3.eq_1 ?_; try with_reducible exact True.intro)
     refine ⟨_, ⟨_, [.int .i64 l.limit, .int .i64 l.start, .slice A l.segs.length c], rfl, rfl, rfl, fun j u hu => .g (h2 j u hu)⟩, ?_⟩
     (refine sI ?_; try with_reducible exact True.intro)
     refine (last_ok l A c _ (by omega) _ _).mono ?_; rintro _ _ ⟨rfl, rfl⟩; (refine sI ?_; try with_reducible exact True.intro)
     (intros; try refine go_st ?_)
     exact go_l ⟨eE, eE, eE, rfl⟩
   · have k1 := of_decide_eq_false k1
     have hfi2 : ((trmN st l.segs : Nat) : Int) = fi := by omega
     rw [hfi2]
     (repeat first | (with_reducible intro _) | refine go_skip ?_ | refine go_b ?_)
     exact go_l ⟨eE, eE, eE, rfl⟩
 rintro e h ⟨e3, e0, e1, rfl⟩
 refine go_keep [0, 1, 3] ?_
 (refine sJ3 @e0 @e1 @e3 ?_; try with_reducible exact True.intro)
 generalize hnn : trmN st l.segs = n at *
 (intros; try refine go_st ?_); refine go_y _ (List.Sublist.refl _) (by decide) ?_; (refine sJ c57r4.eq_1 ?_; try with_reducible exact True.intro)
 refine ⟨_, ⟨_, rfl, .g h20⟩, ?_⟩
 (refine sI ?_; try with_reducible exact True.intro)
 refine ⟨_, ⟨_, rfl, .g h3⟩, ?_⟩
 (refine sI ?_; try with_reducible exact True.intro)
 refine ⟨_, ⟨_, rfl, .g h22⟩, ?_⟩
 (refine sJ @sqY_i ?_; try with_reducible exact True.intro)
 refine ⟨⟨by omega, by omega, by omega, by omega⟩, ?_⟩
 have hn3 : trmN st l.segs < l.segs.length := by rcases htr with h | h <;> omega
 have hds : SlV G (SE G) 2 (.slice (if c = n then A else A.map (·.add (n * 2))) (l.segs.length - n) (c - n)) (l.segs.drop n) := by
   refine ⟨_, _, by rw [List.length_drop], by rw [List.length_drop]; omega, by omega, ?_⟩
   have := hA.cut (l := n) (n := l.segs.length) (B := if c = n then A else A.map (·.add (n * 2))) (Nat.le_refl _) (fun h => by rw [if_neg (by omega)])
   rw [List.take_length] at this
   exact this
 have hcl := CloneS_ok (l.segs.drop n) _ G hds (by rw [List.length_drop]; omega)
 (refine sI ?_; try with_reducible exact True.intro)
 refine (ownN_sl hcl _ _).mono ?_
 rintro r h' ⟨G1, L', rfl, hg1, A4, c4, ys, rfl, -, hys, rfl⟩
 refine ⟨grow_L hg1 (.cons _ (List.Sublist.refl _)), ?_⟩
 generalize l.segs.drop n = ZS at *
 (refine sI ?_; try with_reducible exact True.intro)
 (refine sJ c57r5.eq_1 ?_; try with_reducible exact True.intro)
 (intros; try refine go_st ?_)
 refine go_gx (gx_slv_at [] _ (by decide) hys) ?_
 rintro h' ⟨G2, rfl, hg2, hv2⟩
 refine go_ret (retQ_v rfl ?_); simp only [push_cast, Nat.reduceBEq]
 exact ⟨_, rfl, A4, c4, rfl, hv2.le (.refl _) fun _ _ h => SE.le (hg1.trans hg2) h, hi, hst⟩
theorem Trim_ok (l : Lg) (st : Int) (cs : List Value) (G : Nat → Option Obj) (hl : LE G l cs) (hb : smL l.segs) (hm : l.segs.length ≤ 1000) (hst : I64 st) :
   FnD Try.prog 32 #[.agg cs.toArray, .int .i64 st] G (LgR (trmL l st)) := by
 have hl0 := hl
 obtain ⟨A, c, rfl, hsl, hi, hj⟩ := hl
 refine F32.fnD (by simp) (go_of ?_)
 unfold c32
 unfold cellL at hl0 ⊢
 (intros; try refine go_st ?_); refine go_r 0 0 (by decide) ?_; (refine sJ c32r0.eq_1 ?_; try with_reducible exact True.intro)
 intro b2 hb2 b3 hb3
 (intros; try refine go_st ?_)
 refine go_gx (gx_blk_at [_] _) ?_
 rintro h' ⟨G1, rfl, hg1, f3⟩
 refine go_gx (gx_blk_at [_] _) ?_
 rintro h' ⟨G2, rfl, hg2, f2⟩
 have e3 := cellG_le hg2 (f3 0 _ rfl)
 rw [add_off] at e3
 have hg02 := hg1.trans hg2
 have hchk := ChkL_ok l _ G2 (LE.le hg02 hl0) hb
 have hrest : ∀ (fr : List Td) (e : Env), ¬ (inO st = false ∧ chkL l = 0) → e 2 = .pointer (some ⟨b2, 0, none⟩) → e 3 = .pointer (some ⟨b3, 0, none⟩) →
     go none Try.prog 21 v32.1 v32.2 (retQ o32 fun v h => LgR (trmL l st) h.G v) (Td.s ((SC.reg false c32r3).seq .ret) :: fr) e ⟨G2, [.reg 4 [.int .i64 0, .int .i64 0, .slice none 0 0]], []⟩ := fun fr e hno e2 e33 => by
   refine go_keep [2, 3] ?_
   (refine sJ2 @e2 @e33 ?_; try with_reducible exact True.intro)
   (intros; try refine go_st ?_); refine go_r 15 21 (by decide) ?_; (refine sJ c32r3.eq_1 ?_; try with_reducible exact True.intro)
   refine ⟨_, ⟨_, [.int .i64 l.limit, .int .i64 l.start, .slice A l.segs.length c], rfl, rfl, rfl, fun j u hu => .g (f2 j u hu)⟩, ?_⟩
   (refine sI ?_; try with_reducible exact True.intro)
   refine ⟨_, ⟨_, rfl, .g e3⟩, ?_⟩
   (refine sI ?_; try with_reducible exact True.intro)
   refine (cut_ok l st 57 _ _ _ G2 (LE.le hg02 hl0) hb (by omega) (fun k1 _ => Trim1_ok l st A c b2 b3 G2 (SlSE.le hg02 hsl) hi hj hb (chkL_0 k1).2.1 hm hst f2 e3) _ _).mono ?_
   rintro r h' ⟨G3, rfl, hg3, cs, rfl, hle⟩
   have hle0 := hle
   obtain ⟨A3, c3, rfl, hs3⟩ := hle
   unfold cellL
   (refine sI ?_; try with_reducible exact True.intro)
   (intros; try refine go_st ?_)
   refine go_ret (retQ_v rfl ?_); simp only [push_cast, Nat.reduceBEq]
   have hp : cutL l st ⟨l.limit, st, l.segs.drop (trmN st l.segs)⟩ = trmL l st := by
     unfold cutL trmL
     by_cases k : chkL l = 0
     · rw [if_pos k, if_pos k]
       have : inO st = true := by
         by_cases h : inO st = true
         · exact h
         · exact absurd ⟨by simpa using h, k⟩ hno
       simp [this]
     · rw [if_neg k, if_neg k]
   rw [hp] at hle0 ⊢
   exact ⟨_, rfl, hle0⟩
 (intros; try refine go_st ?_); refine go_r 6 13 (by decide) ?_; (refine sJ c32r1.eq_1 ?_; try with_reducible exact True.intro)
 refine ⟨_, ⟨_, rfl, .g e3⟩, ?_⟩
 (refine sI ?_; try with_reducible exact True.intro)
 refine (offset_ok _ _ _ _).mono ?_; rintro _ _ ⟨rfl, rfl⟩; (refine sI ?_; try with_reducible exact True.intro)
 refine gd (fun k1 => ?_) (fun k1 => ?_)
 · have k1 : inO st = false := by simpa using k1
   (refine sI ?_; try with_reducible exact True.intro)
   refine ⟨_, ⟨_, [.int .i64 l.limit, .int .i64 l.start, .slice A l.segs.length c], rfl, rfl, rfl, fun j u hu => .g (f2 j u hu)⟩, ?_⟩
   (refine sI ?_; try with_reducible exact True.intro)
   refine (hchk _ _).mono ?_; rintro _ _ ⟨rfl, rfl⟩; (refine sI ?_; try with_reducible exact True.intro)
   (intros; try refine go_st ?_); refine go_c ?_; (refine sI ?_; try with_reducible exact True.intro)
   refine gb (fun k2 => ?_) (fun k2 => ?_)
   · have k2 := of_decide_eq_true k2
     (intros; try refine go_st ?_); refine go_r 14 15 (by decide) ?_; (refine sJ c32r2.eq_1 ?_; try with_reducible exact True.intro)
     (intros; try refine go_st ?_)
     refine go_ret (retQ_v rfl ?_); simp only [push_cast, Nat.reduceBEq]
     rw [trmL, if_pos k2, if_neg (by rw [k1]; simp)]
     exact noneL_r
   · have k2 := of_decide_eq_false k2
     (repeat first | (with_reducible intro _) | refine go_skip ?_ | refine go_b ?_)
     refine hrest _ _ (fun h => k2 h.2) ?_ ?_
     · (refine sI ?_; try with_reducible exact True.intro)
     · (refine sI ?_; try with_reducible exact True.intro)
 · have k1 : inO st = true := by simpa using k1
   (refine sI ?_; try with_reducible exact True.intro)
   (intros; try refine go_st ?_); refine go_c ?_; (refine sI ?_; try with_reducible exact True.intro)
   (repeat first | (with_reducible intro _) | refine go_skip ?_ | refine go_b ?_)
   refine hrest _ _ (fun h => by rw [k1] at h; cases h.1) ?_ ?_
   · (refine sI ?_; try with_reducible exact True.intro)
   · (refine sI ?_; try with_reducible exact True.intro)
theorem F28 : Fun Try.prog 28 68 v28 c28 o28 := Fun.mk' Try.func28 Try.ntmps28 (by kernel_rfl) (by kernel_rfl) s28 q28
theorem ofL_ok' {limit : Int} (hl : limO limit = true) : ∀ {s : Sg} {l : List Batch}, s.bytes.length ≤ 4096 → (ofL limit s l).2 = 0 → (ofL limit s l).1.base = s.base ∧ (ofL limit s l).1.bytes.length ≤ 4096
 | s, [], h, _ => ⟨rfl, h⟩
 | s, b :: l, h, h2 => by
   rw [ofL] at h2 ⊢
   by_cases h3 : (appS s b limit).2 = 0
   · rw [if_pos h3] at h2 ⊢
     obtain ⟨-, -, -, h4, h5⟩ := appS_ok h3
     have h6 := (limO_iff.1 hl).2
     rw [h5] at h2 ⊢
     obtain ⟨g1, g2⟩ := ofL_ok' hl (s := ⟨s.base, s.bytes ++ bytesB b⟩) (by simp only [List.length_append]; omega) h2
     exact ⟨g1, g2⟩
   · rw [if_neg h3] at h2
     exact absurd h2 h3
theorem ofS_len {base limit : Int} {l : List Batch} (h : (ofS base l limit).2 = 0) : (ofS base l limit).1.base = base ∧ (ofS base l limit).1.bytes.length ≤ 4096 := by
 unfold ofS at h ⊢
 by_cases h1 : (newS base).2 = 0 ∧ limO limit = true
 · rw [if_pos h1] at h ⊢
   have h2 : newS base = (⟨base, []⟩, 0) := by
     have := h1.1
     unfold newS at this ⊢
     by_cases hb : inO base = true
     · rw [if_pos hb]
     · rw [if_neg hb] at this; cases this
   rw [h2] at h ⊢
   exact ofL_ok' h1.2 (by simp) h
 · rw [if_neg h1] at h
   cases h
set_option maxHeartbeats 1000000 in
theorem CReplace_ok (l : Lg) (n : Int) (bs : List Batch) (cs : List Value) (v : Value) (G : Nat → Option Obj) (hl : LE G l cs) (hb : smL l.segs) (hm : l.segs.length ≤ 1000) (hni : I64 n) (hbs : SlV G (BE G) 10 v bs) :
   FnD Try.prog 28 #[.agg cs.toArray, .int .i64 n, v] G (LgR (repL l n bs)) := by
 have hl0 := hl
 have hchk := ChkL_ok l cs G hl hb
 obtain ⟨A, c, rfl, hsl, hi, hj⟩ := hl
 have hsl0 := hsl
 obtain ⟨A0, c0, he, hc, hmx, hA⟩ := hsl
 cases he
 have hbs0 := hbs
 obtain ⟨B, d, rfl, hd, hmy, hB⟩ := hbs
 refine F28.fnD (by simp) (go_of ?_)
 unfold c28
 unfold cellL at hchk hl0 ⊢
 (intros; try refine go_st ?_); refine go_r 0 0 (by decide) ?_; (refine sJ c28r0.eq_1 ?_; try with_reducible exact True.intro)
 (intros; try refine go_st ?_); refine go_r 12 14 (by decide) ?_; (refine sJ c28r1.eq_1 ?_; try with_reducible exact True.intro)
 refine (hchk _ _).mono ?_; rintro _ _ ⟨rfl, rfl⟩; (refine sI ?_; try with_reducible exact True.intro)
 (intros; try refine go_st ?_); refine go_r 14 15 (by decide) ?_; (refine sJ c28r2.eq_1 ?_; try with_reducible exact True.intro)
 (intros; try refine go_st ?_); refine go_c ?_; (refine sI ?_; try with_reducible exact True.intro)
 refine gb (fun k1 => ?_) (fun k1 => ?_)
 · have k1 := of_decide_eq_true k1
   (intros; try refine go_st ?_); refine go_r 16 18 (by decide) ?_; (refine sJ c28r3.eq_1 ?_; try with_reducible exact True.intro)
   (intros; try refine go_st ?_)
   refine go_ret (retQ_v rfl ?_); simp only [push_cast, Nat.reduceBEq]
   rw [repL, if_neg k1]
   exact noneL_r
 have k1 : chkL l = 0 := by simpa using k1
 obtain ⟨c1, c2, c3, c4⟩ := chkL_0 k1
 (repeat first | (with_reducible intro _) | refine go_skip ?_ | refine go_b ?_)
 (repeat (with_reducible intro _)); try refine go_seq ?_
 refine go_cut (fun e h => (0 ≤ n ∧ n < (l.segs.length : Int) - 1) ∧ e 1 = .int .i64 n ∧ e 2 = .slice B bs.length d ∧ h = ⟨G, [.reg 6 [.int .i64 0, .int .i64 0, .slice none 0 0], .reg 3 [.int .i64 l.limit, .int .i64 l.start, .slice A l.segs.length c]], []⟩) ?_ ?_
 · (intros; try refine go_st ?_); refine go_r 18 25 (by decide) ?_; (refine sJ c28r4.eq_1 ?_; try with_reducible exact True.intro)
   refine gd (fun k2 => ?_) (fun k2 => ?_)
   · have k2 := of_decide_eq_true k2
     (refine sI ?_; try with_reducible exact True.intro)
     (intros; try refine go_st ?_); refine go_c ?_; (refine sI ?_; try with_reducible exact True.intro)
     (intros; try refine go_st ?_); refine go_r 26 27 (by decide) ?_; (refine sJ c28r5.eq_1 ?_; try with_reducible exact True.intro)
     (intros; try refine go_st ?_)
     refine go_ret (retQ_v rfl ?_); simp only [push_cast, Nat.reduceBEq]
     rw [repL, if_pos k1, if_neg (by omega)]
     exact noneL_r
   · have k2 := of_decide_eq_false k2
     (refine sI ?_; try with_reducible exact True.intro)
     refine (last_ok l A c _ (by omega) _ _).mono ?_; rintro _ _ ⟨rfl, rfl⟩; (refine sI ?_; try with_reducible exact True.intro)
     (intros; try refine go_st ?_); refine go_c ?_; (refine sI ?_; try with_reducible exact True.intro)
     refine gb (fun k3 => ?_) (fun k3 => ?_)
     · have k3 := of_decide_eq_true k3
       (intros; try refine go_st ?_); refine go_r 26 27 (by decide) ?_; (refine sJ c28r5.eq_1 ?_; try with_reducible exact True.intro)
       (intros; try refine go_st ?_)
       refine go_ret (retQ_v rfl ?_); simp only [push_cast, Nat.reduceBEq]
       rw [repL, if_pos k1, if_neg (by omega)]
       exact noneL_r
     · have k3 := of_decide_eq_false k3
       (repeat first | (with_reducible intro _) | refine go_skip ?_ | refine go_b ?_)
       exact go_l ⟨by omega, eE, eE, rfl⟩
 rintro e h ⟨k2, e1, e2, rfl⟩
 refine go_keep [1, 2] ?_
 (refine sJ2 @e1 @e2 ?_; try with_reducible exact True.intro)
 obtain ⟨k, rfl⟩ : ∃ k : Nat, n = (k : Int) := ⟨n.toNat, by omega⟩
 obtain ⟨s, hs⟩ : ∃ s, l.segs[k]? = some s := ⟨l.segs[k]'(by omega), List.getElem?_eq_getElem _⟩
 obtain ⟨t, ht⟩ : ∃ t, l.segs[k + 1]? = some t := ⟨l.segs[k + 1]'(by omega), List.getElem?_eq_getElem _⟩
 have n1 : nthS l k = s := by rw [nthS, List.getD_eq_getElem?_getD, hs]; rfl
 have n2 : nthS l (k + 1) = t := by rw [nthS, List.getD_eq_getElem?_getD, ht]; rfl
 have hrep : repL l (k : Int) bs = if (ofS s.base bs l.limit).2 = 0 then if t.base < endB (ofS s.base bs l.limit).1 then (noneL, 71) else (⟨l.limit, l.start, l.segs.set k (ofS s.base bs l.limit).1⟩, 0) else (noneL, (ofS s.base bs l.limit).2) := by
   rw [repL, if_pos k1, if_pos k2, Int.toNat_natCast, n1, n2]
 rw [hrep]
 clear hrep
 have hsi := sl_i hA s (List.mem_of_getElem? hs)
 have hof := Of_ok s.base l.limit bs _ G hbs0 hsi hi
 have hol := @ofS_len s.base l.limit bs
 generalize ofS s.base bs l.limit = q at *
 obtain ⟨s', er⟩ := q
 dsimp only at hol ⊢
 (repeat (with_reducible intro _))
 (repeat (with_reducible intro _)); try refine go_seq ?_
 refine go_cut (fun e h => ∃ (G' : Nat → Option Obj) (b9 : Nat) (A3 : Option Addr) (c3 : Nat), (Gle G G' ∧ SB G' (.slice A3 s'.bytes.length c3) s'.bytes) ∧ e 1 = .int .i64 (k : Int) ∧ e 9 = .pointer (some ⟨b9, 0, none⟩) ∧ e 10 = .int .i64 er ∧ h = ⟨G', [.blk b9 [.int .i64 s'.base, .slice A3 s'.bytes.length c3], .reg 6 [.int .i64 0, .int .i64 0, .slice none 0 0], .reg 3 [.int .i64 l.limit, .int .i64 l.start, .slice A l.segs.length c]], []⟩) ?_ ?_
 · (intros; try refine go_st ?_); refine go_z _ (List.Sublist.refl _) (by decide) ?_; (refine sJ c28r6.eq_1 ?_; try with_reducible exact True.intro)
   refine hA.y_lf (k := k) (u := .int .i64 s.base) hs rfl rfl (fun cs h => by obtain ⟨_, _, rfl, -⟩ := h; rfl) fun a ha => ?_
   (refine sI ?_; try with_reducible exact True.intro)
   refine ⟨?_, ?_⟩
   · refine (hof _ _).mono ?_
     rintro r h' ⟨G1, rfl, hg1, A3, c3, rfl, hs1⟩
     (refine sI ?_; try with_reducible exact True.intro)
     refine ⟨grow_G hg1, ?_⟩
     intro b9 hb9
     refine ⟨grow_L hg1 (.cons _ (List.Sublist.refl _)), ?_⟩
     (refine sI ?_; try with_reducible exact True.intro)
     refine stX_blk [] _ rfl (Nat.le_refl 2) ⟨rfl, rfl⟩ ?_
     (refine sI ?_; try with_reducible exact True.intro)
     refine ⟨grow_L hg1 (.cons _ (List.Sublist.refl _)), ?_⟩
     (refine sI ?_; try with_reducible exact True.intro)
     exact go_l ⟨G1, b9, A3, c3, ⟨hg1, hs1⟩, eE, eE, eE, rfl⟩
   · intro b9 hb9
     refine ⟨grow_L (fun _ _ h => h) (.cons _ (List.Sublist.refl _)), ?_⟩
     refine (hof _ _).mono ?_
     rintro r h' ⟨G1, rfl, hg1, A3, c3, rfl, hs1⟩
     (refine sI ?_; try with_reducible exact True.intro)
     refine ⟨grow_L hg1 (.cons _ (List.Sublist.refl _)), ?_⟩
     (refine sI ?_; try with_reducible exact True.intro)
     refine stX_blk [] _ rfl (Nat.le_refl 2) ⟨rfl, rfl⟩ ?_
     (refine sI ?_; try with_reducible exact True.intro)
     refine ⟨grow_L hg1 (.cons _ (List.Sublist.refl _)), ?_⟩
     (refine sI ?_; try with_reducible exact True.intro)
     exact go_l ⟨G1, b9, A3, c3, ⟨hg1, hs1⟩, eE, eE, eE, rfl⟩
 rintro e h ⟨G1, b9, A3, c3, ⟨hg1, hs1⟩, e1, e9, e10, rfl⟩
 refine go_keep [1, 9, 10] ?_
 (refine sJ3 @e1 @e9 @e10 ?_; try with_reducible exact True.intro)
 (repeat (with_reducible intro _))
 (repeat (with_reducible intro _)); try refine go_seq ?_
 refine go_gx gx_blk ?_
 rintro h' ⟨G2, rfl, hg2, f9⟩
 have hs1 := SB.le hs1 hg2
 have hg1 := hg1.trans hg2
 have hw1 : IntKind.i64.wrap ((k : Int) + 1) = ((k + 1 : Nat) : Int) := by rw [w64_id] <;> omega
 refine go_cut (fun e h => e 1 = .int .i64 (k : Int) ∧ e 9 = .pointer (some ⟨b9, 0, none⟩) ∧ e 10 = .int .i64 (if er = 0 then if t.base < endB s' then 71 else 0 else er) ∧ h = ⟨G2, [.reg 6 [.int .i64 0, .int .i64 0, .slice none 0 0], .reg 3 [.int .i64 l.limit, .int .i64 l.start, .slice A l.segs.length c]], []⟩) ?_ ?_
 · (intros; try refine go_st ?_); refine go_x _ (List.Sublist.refl _) (by decide) ?_; (refine sJ c28r7.eq_1 ?_; try with_reducible exact True.intro)
   refine gx (fun k3 => ?_) (fun k3 => ?_)
   · have k3 : er = 0 := of_decide_eq_true k3
     obtain ⟨o1, o2⟩ := hol k3
     have hse : SE G2 s' [.int .i64 s'.base, .slice A3 s'.bytes.length c3] := ⟨A3, c3, rfl, hs1, by rw [o1]; exact hsi⟩
     have hend := End_ok s' _ G2 hse (by omega)
     have hA2 := hA.le hg1 (E' := SE G2) fun _ _ h => SE.le hg1 h
     (refine sI ?_; try with_reducible exact True.intro)
     refine ⟨_, ⟨_, [.int .i64 s'.base, .slice A3 s'.bytes.length c3], rfl, rfl, rfl, fun j u hu => .g (f9 j u hu)⟩, ?_⟩
     (refine sJ @hw1 ?_; try with_reducible exact True.intro)
     refine hA2.y_lf (k := k + 1) (u := .int .i64 t.base) ht rfl rfl (fun cs h => by obtain ⟨_, _, rfl, -⟩ := h; rfl) fun a ha => ?_
     (refine sI ?_; try with_reducible exact True.intro)
     refine (hend _ _).mono ?_; rintro _ _ ⟨rfl, rfl⟩; (refine sI ?_; try with_reducible exact True.intro)
     (intros; try refine go_st ?_); refine go_c ?_; (refine sI ?_; try with_reducible exact True.intro)
     refine gb (fun k4 => ?_) (fun k4 => ?_)
     · have k4 := of_decide_eq_true k4
       have hq : (if er = 0 then if t.base < endB s' then 71 else 0 else er : Int) = 71 := by rw [if_pos k3, if_pos k4]
       (intros; try refine go_st ?_); refine go_r 0 0 (by decide) ?_; (refine sJ c28r8.eq_1 ?_; try with_reducible exact True.intro)
       (intros; try refine go_st ?_)
       exact go_l ⟨eE, eE, (eJ @hq), rfl⟩
     · have k4 := of_decide_eq_false k4
       have hq : (if er = 0 then if t.base < endB s' then 71 else 0 else er : Int) = er := by rw [if_pos k3, if_neg k4, k3]
       (repeat first | (with_reducible intro _) | refine go_skip ?_ | refine go_b ?_)
       exact go_l ⟨eE, eE, (eJ @hq), rfl⟩
   · have k3 : ¬ er = 0 := of_decide_eq_false k3
     have hq : (if er = 0 then if t.base < endB s' then 71 else 0 else er : Int) = er := by rw [if_neg k3]
     (refine sI ?_; try with_reducible exact True.intro)
     (intros; try refine go_st ?_); refine go_c ?_; (refine sI ?_; try with_reducible exact True.intro)
     (repeat first | (with_reducible intro _) | refine go_skip ?_ | refine go_b ?_)
     exact go_l ⟨eE, eE, (eJ @hq), rfl⟩
 rintro e h ⟨e1, e9, e10, rfl⟩
 refine go_keep [1, 9, 10] ?_
 (refine sJ3 @e1 @e9 @e10 ?_; try with_reducible exact True.intro)
 have hr : (if er = 0 then if t.base < endB s' then (noneL, 71) else (⟨l.limit, l.start, l.segs.set k s'⟩, 0) else (noneL, er)) = if (if er = 0 then if t.base < endB s' then 71 else 0 else er : Int) = 0 then ((⟨l.limit, l.start, l.segs.set k s'⟩ : Lg), (0 : Int)) else (noneL, if er = 0 then if t.base < endB s' then 71 else 0 else er) := by
   by_cases h1 : er = 0
   · by_cases h2 : t.base < endB s'
     · simp [h1, h2]
     · simp [h1, h2]
   · simp [h1]
 have hz : (if er = 0 then if t.base < endB s' then 71 else 0 else er : Int) = 0 → er = 0 := fun h => by
   by_cases h1 : er = 0
   · exact h1
   · rw [if_neg h1] at h; exact h
 rw [hr]
 clear hr
 generalize (if er = 0 then if t.base < endB s' then 71 else 0 else er : Int) = e2 at *
 (repeat (with_reducible intro _))
 (intros; try refine go_st ?_); refine go_r 54 55 (by decide) ?_; (refine sJ c28r9.eq_1 ?_; try with_reducible exact True.intro)
 (intros; try refine go_st ?_); refine go_c ?_; (refine sI ?_; try with_reducible exact True.intro)
 refine gb (fun k3 => ?_) (fun k3 => ?_)
 · have k3 := of_decide_eq_true k3
   (intros; try refine go_st ?_); refine go_r 56 58 (by decide) ?_; (refine sJ c28r10.eq_1 ?_; try with_reducible exact True.intro)
   (intros; try refine go_st ?_)
   refine go_ret (retQ_v rfl ?_); simp only [push_cast, Nat.reduceBEq]
   rw [if_neg k3]
   exact noneL_r
 have k3 : e2 = 0 := by simpa using k3
 obtain ⟨o1, o2⟩ := hol (hz k3)
 rw [if_pos k3]
 have hsl2 := SlSE.le hg1 hsl0
 have hcl := CloneS_ok l.segs _ G2 hsl2 (by omega)
 have hse : SE G2 s' [.int .i64 s'.base, .slice A3 s'.bytes.length c3] := ⟨A3, c3, rfl, hs1, by rw [o1]; exact hsi⟩
 (repeat first | (with_reducible intro _) | refine go_skip ?_ | refine go_b ?_)
 (intros; try refine go_st ?_); refine go_r 59 61 (by decide) ?_; (refine sJ c28r11.eq_1 ?_; try with_reducible exact True.intro)
 refine (ownN_sl hcl _ _).mono ?_
 rintro r h' ⟨G3, L', rfl, hg3, A4, c4, ys, rfl, -, hys, rfl⟩
 have hnew := hys.set (k := k) (x := s') (cs := [.int .i64 s'.base, .slice A3 s'.bytes.length c3]) (by omega) hse rfl
 (refine sI ?_; try with_reducible exact True.intro)
 (repeat (with_reducible intro _)); try refine go_seq ?_
 refine go_gx (gx_know (.head _) (by omega)) ?_
 rintro h' ⟨rfl, g, c0, hA3, -, -⟩
 cases hA3
 have hlk : (l.segs.set k s').length = l.segs.length := List.length_set
 (intros; try refine go_st ?_); refine go_r 61 65 (by decide) ?_; (refine sJ c28r12.eq_1 ?_; try with_reducible exact True.intro)
 refine ⟨_, ⟨_, [.int .i64 s'.base, .slice A3 s'.bytes.length c3], rfl, rfl, rfl, fun j u hu => .g (cellG_le hg3 (f9 j u hu))⟩, ?_⟩
 (refine sI ?_; try with_reducible exact True.intro)
 refine ⟨by omega, _, rfl, ?_⟩
 rw [add_off, Nat.zero_add]
 refine stX_row [] [_, _] rfl (by have := hys.len; simp at this ⊢; omega) ⟨rfl, rfl⟩ ?_
 (refine sI ?_; try with_reducible exact True.intro)
 (repeat (with_reducible intro _)); try refine go_seq ?_
 refine go_gx (gx_slv_at [] _ (by decide) hnew) ?_
 rintro h' ⟨G5, rfl, hg5, hv5⟩
 (intros; try refine go_st ?_); refine go_r 65 68 (by decide) ?_; (refine sJ c28r13.eq_1 ?_; try with_reducible exact True.intro)
 refine (with_ok _ _ _ _ _ _ _ _ _ _ _).mono ?_; rintro _ _ ⟨rfl, rfl⟩; (refine sI ?_; try with_reducible exact True.intro)
 (intros; try refine go_st ?_)
 refine go_ret (retQ_v rfl ?_); simp only [push_cast, Nat.reduceBEq]
 exact ⟨_, rfl, some ⟨g, 0, none⟩, c4, by simp only [cellL, hlk], by dsimp only; rw [hlk]; exact hv5.le (.refl _) fun _ _ h => SE.le (hg3.trans hg5) h, hi, hj⟩
theorem F24 : Fun Try.prog 24 94 v24 c24 o24 := Fun.mk' Try.func24 Try.ntmps24 (by kernel_rfl) (by kernel_rfl) s24 q24
def recK : Option Sg → List Sg → Bool
 | _, [] => true
 | p, s :: ss => keeps p s && recK (some s) ss
theorem recS_snoc : ∀ (l : List Sg) (p : Option Sg) (s : Sg), recS p (l ++ [s]) = recS p l ++ (if (recK p l && keeps (endP p l) s) = true then [(fixS s).1] else []) ∧ recK p (l ++ [s]) = (recK p l && keeps (endP p l) s)
 | [], p, s => by simp [recS, recK, endP]
 | t :: l, p, s => by
   obtain ⟨h1, h2⟩ := recS_snoc l (some t) s
   rw [List.cons_append, recS, recS, recK, recK, endP]
   by_cases hk : keeps p t = true
   · rw [if_pos hk, if_pos hk, h1, h2, hk]
     simp
   · rw [if_neg hk, if_neg hk, h2]
     have : keeps p t = false := by simpa using hk
     simp [this]
theorem recS_at {l : List Sg} {k : Nat} {s : Sg} (h : l[k]? = some s) : recS none (l.take (k + 1)) = recS none (l.take k) ++ (if (recK none (l.take k) && keeps (endP none (l.take k)) s) = true then [(fixS s).1] else []) ∧ recK none (l.take (k + 1)) = (recK none (l.take k) && keeps (endP none (l.take k)) s) := by
 rw [take_snoc' h]
 exact recS_snoc _ _ _
theorem recS_le : ∀ (l : List Sg) (p : Option Sg), (recS p l).length ≤ l.length ∧ (recK p l = true ↔ (recS p l).length = l.length)
 | [], p => by simp [recS, recK]
 | s :: l, p => by
   obtain ⟨h1, h2⟩ := recS_le l (some s)
   rw [recS, recK]
   by_cases hk : keeps p s = true
   · rw [if_pos hk, hk, Bool.true_and]
     simp only [List.length_cons]
     exact ⟨by omega, h2.trans (by omega)⟩
   · have : keeps p s = false := by simpa using hk
     rw [if_neg hk, this]
     simp
theorem sizS_take (l : List Sg) (k : Nat) : sizS (l.take k) ≤ sizS l := by
 conv => rhs; rw [← List.take_append_drop k l, sizS_app]
 omega
theorem recS_siz : ∀ (l : List Sg) (p : Option Sg), sizS (recS p l) ≤ sizS l
 | [], p => Nat.le_refl _
 | s :: l, p => by
   rw [recS]
   split
   · have h1 := recS_siz l (some s)
     have h2 : (fixS s).1.bytes.length ≤ s.bytes.length := by
       show (s.bytes.take _).length ≤ _
       rw [List.length_take]
       omega
     simp only [sizS]
     omega
   · simp [sizS]
theorem sizS_sm {l : List Sg} (h : smL l) : sizS l ≤ 100000 * l.length := by
 induction l with
 | nil => simp [sizS]
 | cons s l ih =>
   have h1 := ih fun t ht => h t (.tail _ ht)
   have h2 := h s (.head _)
   simp only [sizS, List.length_cons]
   omega
set_option maxHeartbeats 1000000 in
theorem Recover_ok (l : Lg) (cs : List Value) (G : Nat → Option Obj) (hl : LE G l cs) (hb : smL l.segs) (hm : l.segs.length ≤ 1000) :
   FnD Try.prog 24 #[.agg cs.toArray] G (LgR (recL l)) := by
 obtain ⟨A, c, rfl, hsl, hi, hj⟩ := hl
 have hsl0 := hsl
 obtain ⟨A0, c0, he, hc, hmx, hA⟩ := hsl
 cases he
 refine F24.fnD (by simp) (go_of ?_)
 unfold c24 cellL
 (intros; try refine go_st ?_); refine go_r 0 0 (by decide) ?_; (refine sJ c24r0.eq_1 ?_; try with_reducible exact True.intro)
 (repeat (with_reducible intro _))
 (repeat (with_reducible intro _)); try refine go_seq ?_
 refine go_cut (fun e h => (mayO l.limit l.start = true ∧ headO l = true) ∧ e 3 = .int .i64 0 ∧ h = ⟨G, [.reg 2 [.int .i64 0, .int .i64 0, .slice none 0 0], .reg 1 [.int .i64 l.limit, .int .i64 l.start, .slice A l.segs.length c]], []⟩) ?_ ?_
 · (intros; try refine go_st ?_); refine go_r 9 28 (by decide) ?_; (refine sJ c24r1.eq_1 ?_; try with_reducible exact True.intro)
   refine (may_ok _ _ _ _ _).mono ?_; rintro _ _ ⟨rfl, rfl⟩; (refine sI ?_; try with_reducible exact True.intro)
   refine gd (fun k1 => ?_) (fun k1 => ?_)
   · have k1 : mayO l.limit l.start = false := by simpa using k1
     (refine sI ?_; try with_reducible exact True.intro)
     (intros; try refine go_st ?_); refine go_c ?_; (refine sI ?_; try with_reducible exact True.intro)
     (intros; try refine go_st ?_); refine go_r 29 30 (by decide) ?_; (refine sJ c24r2.eq_1 ?_; try with_reducible exact True.intro)
     (intros; try refine go_st ?_)
     refine go_ret (retQ_v rfl ?_); simp only [push_cast, Nat.reduceBEq]
     rw [recL, if_neg (by rw [k1]; simp)]
     exact noneL_r
   have k1 : mayO l.limit l.start = true := by simpa using k1
   (refine sI ?_; try with_reducible exact True.intro)
   refine gd (fun k2 => ?_) (fun k2 => ?_)
   · have k2 : l.segs = [] := List.eq_nil_of_length_eq_zero (by have := of_decide_eq_true k2; omega)
     have hh : headO l = false := by unfold headO; rw [k2]
     (refine sI ?_; try with_reducible exact True.intro)
     (intros; try refine go_st ?_); refine go_c ?_; (refine sI ?_; try with_reducible exact True.intro)
     (intros; try refine go_st ?_); refine go_r 29 30 (by decide) ?_; (refine sJ c24r2.eq_1 ?_; try with_reducible exact True.intro)
     (intros; try refine go_st ?_)
     refine go_ret (retQ_v rfl ?_); simp only [push_cast, Nat.reduceBEq]
     rw [recL, if_neg (by rw [hh]; simp)]
     exact noneL_r
   have k2 : ¬ l.segs = [] := fun h => by rw [h] at k2; simp at k2
   obtain ⟨s0, ss, hss⟩ := List.exists_cons_of_ne_nil k2
   have hs0 : l.segs[0]? = some s0 := by rw [hss]; rfl
   have hh : headO l = inO s0.base := by unfold headO; rw [hss]
   (refine sI ?_; try with_reducible exact True.intro)
   refine hA.x_lf (k := 0) (u := .int .i64 s0.base) hs0 rfl rfl (fun cs h => by obtain ⟨_, _, rfl, -⟩ := h; rfl) fun a ha => ?_
   (refine sI ?_; try with_reducible exact True.intro)
   refine (offset_ok _ _ _ _).mono ?_; rintro _ _ ⟨rfl, rfl⟩; (refine sI ?_; try with_reducible exact True.intro)
   (intros; try refine go_st ?_); refine go_c ?_; (refine sI ?_; try with_reducible exact True.intro)
   refine gb (fun k3 => ?_) (fun k3 => ?_)
   · have k3 : inO s0.base = false := by simpa using k3
     (intros; try refine go_st ?_); refine go_r 29 30 (by decide) ?_; (refine sJ c24r2.eq_1 ?_; try with_reducible exact True.intro)
     (intros; try refine go_st ?_)
     refine go_ret (retQ_v rfl ?_); simp only [push_cast, Nat.reduceBEq]
     rw [recL, if_neg (by rw [hh, k3]; simp)]
     exact noneL_r
   · have k3 : inO s0.base = true := by simpa using k3
     (repeat first | (with_reducible intro _) | refine go_skip ?_ | refine go_b ?_)
     exact go_l ⟨⟨k1, by rw [hh, k3]⟩, eE, rfl⟩
 rintro e h ⟨⟨k1, k2⟩, e3, rfl⟩
 refine go_keep [3] ?_
 (refine sJ @e3 ?_; try with_reducible exact True.intro)
 have hrec : recL l = (⟨l.limit, l.start, recS none l.segs⟩, (sizS l.segs : Int) - (sizS (recS none l.segs) : Int)) := by rw [recL, if_pos ⟨k1, k2⟩]
 rw [hrec]
 have hsm := sizS_sm hb
 (repeat (with_reducible intro _))
 (intros; try refine go_st ?_); refine go_r 30 32 (by decide) ?_; (refine sJ c24r3.eq_1 ?_; try with_reducible exact True.intro)
 refine (with_ok _ _ _ _ _ _ _ _ _ _ _).mono ?_; rintro _ _ ⟨rfl, rfl⟩; (refine sI ?_; try with_reducible exact True.intro)
 (intros; try refine go_st ?_); refine go_r 0 0 (by decide) ?_; (refine sJ c24r4.eq_1 ?_; try with_reducible exact True.intro)
 (repeat (with_reducible intro _))
 (repeat (with_reducible intro _)); try refine go_seq ?_
 refine go_ghost (ghost_nil none 53 2) ?_
 refine go_cut (fun e h => ∃ (G' : Nat → Option Obj) (A2 : Option Addr) (c2 : Nat) (zc : List Value), (Gle G G' ∧ Cells (SE G') 2 (recS none l.segs) zc) ∧ e 3 = .int .i64 ((sizS l.segs : Int) - (sizS (recS none l.segs) : Int)) ∧ h = ⟨G', [.row (.slice A2 (recS none l.segs).length c2) 53 2 (recS none l.segs).length zc, .reg 2 [.int .i64 l.limit, .int .i64 l.start, .slice A2 (recS none l.segs).length c2], .reg 1 [.int .i64 l.limit, .int .i64 l.start, .slice A l.segs.length c]], []⟩) ?_ ?_
 · (intros; try refine go_st ?_)
   refine go_loop (fun e h => ∃ (k : Nat) (G' : Nat → Option Obj) (A2 : Option Addr) (c2 : Nat) (zc : List Value), (k ≤ l.segs.length ∧ Gle G G' ∧ Cells (SE G') 2 (recS none (l.segs.take k)) zc) ∧ e 35 = .int .i64 k ∧ e 34 = .int .i64 l.segs.length ∧ e 33 = .slice A l.segs.length c ∧ e 3 = .int .i64 ((sizS (l.segs.take k) : Int) - (sizS (recS none (l.segs.take k)) : Int)) ∧ h = ⟨G', [.row (.slice A2 (recS none (l.segs.take k)).length c2) 53 2 (recS none (l.segs.take k)).length zc, .reg 2 [.int .i64 l.limit, .int .i64 l.start, .slice A2 (recS none (l.segs.take k)).length c2], .reg 1 [.int .i64 l.limit, .int .i64 l.start, .slice A l.segs.length c]], []⟩) (fun e h => l.segs.length - iv (e 35)) ?_ ?_
   · exact ⟨0, G, none, 0, [], ⟨Nat.zero_le _, .refl _, .nil⟩, eE, eE, eE, by (refine sI ?_; try with_reducible exact True.intro); rfl, rfl⟩
   rintro e h ⟨k, G', A2, c2, zc, ⟨hk, hg', hzc⟩, e35, e34, e33, e3, rfl⟩
   refine go_keep [3, 33, 34, 35] ?_
   (refine sJ4 @e3 @e33 @e34 @e35 ?_; try with_reducible exact True.intro)
   (intros; try refine go_st ?_); refine go_r 0 0 (by decide) ?_; (refine sJ c24r5.eq_1 ?_; try with_reducible exact True.intro)
   (intros; try refine go_st ?_); refine go_c ?_; (refine sI ?_; try with_reducible exact True.intro)
   refine gb (fun ht => ?_) (fun ht => ?_)
   · have ht : k < l.segs.length := by have := of_decide_eq_true ht; omega
     have hw := inc_i k c (by omega) hmx
     obtain ⟨s, hs⟩ : ∃ s, l.segs[k]? = some s := ⟨l.segs[k], List.getElem?_eq_getElem (by omega)⟩
     have hbs := hb s (List.mem_of_getElem? hs)
     obtain ⟨hr1, hr2⟩ := recS_at hs
     obtain ⟨hle, hiff⟩ := recS_le (l.segs.take k) none
     have hlk : (l.segs.take k).length = k := by rw [List.length_take]; omega
     rw [hlk] at hle hiff
     have hz1 : sizS (l.segs.take (k + 1)) = sizS (l.segs.take k) + s.bytes.length := by rw [take_snoc' hs, sizS_app]; simp [sizS]
     have hz2 := sizS_take l.segs (k + 1)
     have hz3 := recS_siz (l.segs.take k) none
     have hA' := hA.le hg' (E' := SE G') fun _ _ h => SE.le hg' h
     have hw2 : IntKind.i64.wrap ((sizS (l.segs.take k) : Int) - (sizS (recS none (l.segs.take k)) : Int) + (s.bytes.length : Int)) = (sizS (l.segs.take k) : Int) - (sizS (recS none (l.segs.take k)) : Int) + (s.bytes.length : Int) := by rw [w64_id] <;> omega
     (repeat first | (with_reducible intro _) | refine go_skip ?_ | refine go_b ?_)
     (intros; try refine go_st ?_); refine go_r 37 40 (by decide) ?_; (refine sJ c24r6.eq_1 ?_; try with_reducible exact True.intro)
     refine hA'.x_ld hs rfl rfl ?_
     rintro a1 ha1 cs hse
     have hse0 := hse
     have hfix := ownSE_d (Fix_ok s cs G' hse (by omega))
     obtain ⟨B, d, rfl, hsb, hsi⟩ := hse
     unfold cellS at hfix hse0 ⊢
     (refine sI ?_; try with_reducible exact True.intro)
     (intros; try refine go_st ?_); refine go_r 40 45 (by decide) ?_; (refine sJ2 c24r7.eq_1 @hw2 ?_; try with_reducible exact True.intro)
     (repeat (with_reducible intro _))
     (repeat (with_reducible intro _)); try refine go_seq ?_
     refine go_cut (fun e h => (recK none (l.segs.take k) && keeps (endP none (l.segs.take k)) s) = true ∧ e 35 = .int .i64 k ∧ e 34 = .int .i64 l.segs.length ∧ e 33 = .slice A l.segs.length c ∧ e 3 = .int .i64 ((sizS (l.segs.take k) : Int) - (sizS (recS none (l.segs.take k)) : Int) + (s.bytes.length : Int)) ∧ h = ⟨G', [.reg 5 [.int .i64 s.base, .slice B s.bytes.length d], .row (.slice A2 (recS none (l.segs.take k)).length c2) 53 2 (recS none (l.segs.take k)).length zc, .reg 2 [.int .i64 l.limit, .int .i64 l.start, .slice A2 (recS none (l.segs.take k)).length c2], .reg 1 [.int .i64 l.limit, .int .i64 l.start, .slice A l.segs.length c]], []⟩) ?_ ?_
     · have hd50 : decide (((recS none (l.segs.take k)).length : Int) < (k : Int)) = !recK none (l.segs.take k) := by
         by_cases h : recK none (l.segs.take k) = true
         · rw [h]; exact decide_eq_false (by have := hiff.1 h; omega)
         · have h2 : recK none (l.segs.take k) = false := by simpa using h
           rw [h2]
           exact decide_eq_true (by have : ¬ (recS none (l.segs.take k)).length = k := fun hh => h (hiff.2 hh); omega)
       (intros; try refine go_st ?_); refine go_x _ (List.Sublist.refl _) (by decide) ?_; (refine sJ2 c24r8.eq_1 @hd50 ?_; try with_reducible exact True.intro)
       refine gx (fun k3 => ?_) (fun k3 => ?_)
       · have k3 : recK none (l.segs.take k) = false := by simpa using k3
         have hr1' : recS none (l.segs.take (k + 1)) = recS none (l.segs.take k) := by rw [hr1, k3]; simp
         have hq : (sizS (l.segs.take k) : Int) - (sizS (recS none (l.segs.take k)) : Int) + (s.bytes.length : Int) = (sizS (l.segs.take (k + 1)) : Int) - (sizS (recS none (l.segs.take (k + 1))) : Int) := by rw [hr1', hz1]; push_cast; omega
         (refine sI ?_; try with_reducible exact True.intro)
         (intros; try refine go_st ?_); refine go_c ?_; (refine sI ?_; try with_reducible exact True.intro)
         rw [← hr1'] at hzc hq ⊢
         refine go_exit ?_
         (refine sI ?_; try with_reducible exact True.intro)
         refine go_ghost (ghost_sub (.cons _ (List.Sublist.refl _))) ?_
         (intros; try refine go_st ?_); refine go_r 91 92 (by decide) ?_; (refine sJ2 c24r12.eq_1 @hw ?_; try with_reducible exact True.intro)
         (intros; try refine go_st ?_)
         refine go_l ⟨⟨k + 1, G', A2, c2, zc, ⟨by omega, hg', hzc⟩, eE, eE, eE, (eJ @hq), rfl⟩, ?_⟩
         (refine sI ?_; try with_reducible exact True.intro)
         omega
       have k3 : recK none (l.segs.take k) = true := by simpa using k3
       rw [k3, Bool.true_and] at hr1 ⊢
       (refine sI ?_; try with_reducible exact True.intro)
       refine gx (fun k4 => ?_) (fun k4 => ?_)
       · have k4 : 0 < k := by have := of_decide_eq_true k4; omega
         have hw1 : IntKind.i64.wrap ((k : Int) - 1) = (k : Int) - 1 := by unfold maxLen at hmx; rw [w64_id] <;> omega
         obtain ⟨p, hp⟩ : ∃ p, l.segs[k - 1]? = some p := ⟨l.segs[k - 1], List.getElem?_eq_getElem (by omega)⟩
         have hbp := hb p (List.mem_of_getElem? hp)
         rw [endP_pred k4 hp] at hr1 ⊢
         (refine sJ @hw1 ?_; try with_reducible exact True.intro)
         refine hA'.y_ld hp (by omega) rfl ?_
         rintro a2 ha2 cs2 hpe
         have hwh := whole_ok p cs2 G' hpe (by omega)
         obtain ⟨B2, d2, rfl, -⟩ := hpe
         unfold cellS at hwh ⊢
         (refine sI ?_; try with_reducible exact True.intro)
         refine (hwh _ _).mono ?_; rintro _ _ ⟨rfl, rfl⟩; (refine sI ?_; try with_reducible exact True.intro)
         refine gx (fun k5 => ?_) (fun k5 => ?_)
         · have k5 : wholeB p = false := by simpa using k5
           have hkp : keeps (some p) s = false := by simp [keeps, k5]
           have hr1' : recS none (l.segs.take (k + 1)) = recS none (l.segs.take k) := by rw [hr1, hkp]; simp
           have hq : (sizS (l.segs.take k) : Int) - (sizS (recS none (l.segs.take k)) : Int) + (s.bytes.length : Int) = (sizS (l.segs.take (k + 1)) : Int) - (sizS (recS none (l.segs.take (k + 1))) : Int) := by rw [hr1', hz1]; push_cast; omega
           (refine sI ?_; try with_reducible exact True.intro)
           (intros; try refine go_st ?_); refine go_c ?_; (refine sI ?_; try with_reducible exact True.intro)
           rw [← hr1'] at hzc hq ⊢
           refine go_exit ?_
           (refine sI ?_; try with_reducible exact True.intro)
           refine go_ghost (ghost_sub (.cons _ (List.Sublist.refl _))) ?_
           (intros; try refine go_st ?_); refine go_r 91 92 (by decide) ?_; (refine sJ2 c24r12.eq_1 @hw ?_; try with_reducible exact True.intro)
           (intros; try refine go_st ?_)
           refine go_l ⟨⟨k + 1, G', A2, c2, zc, ⟨by omega, hg', hzc⟩, eE, eE, eE, (eJ @hq), rfl⟩, ?_⟩
           (refine sI ?_; try with_reducible exact True.intro)
           omega
         have k5 : wholeB p = true := by simpa using k5
         have hkp : keeps (some p) s = folB p s := by simp [keeps, k5]
         (refine sJ @hw1 ?_; try with_reducible exact True.intro)
         refine hA'.y_ld hp (by omega) rfl ?_
         rintro a3 ha3 cs3 hpe3
         have hfo := follows_ok p s cs3 _ G' hpe3 hse0 (by omega)
         obtain ⟨B3, d3, rfl, -⟩ := hpe3
         unfold cellS at hfo ⊢
         (refine sI ?_; try with_reducible exact True.intro)
         refine (hfo _ _).mono ?_; rintro _ _ ⟨rfl, rfl⟩; (refine sI ?_; try with_reducible exact True.intro)
         (intros; try refine go_st ?_); refine go_c ?_; (refine sI ?_; try with_reducible exact True.intro)
         refine gb (fun k6 => ?_) (fun k6 => ?_)
         · have k6 : folB p s = false := by simpa using k6
           rw [k6] at hkp
           have hr1' : recS none (l.segs.take (k + 1)) = recS none (l.segs.take k) := by rw [hr1, hkp]; simp
           have hq : (sizS (l.segs.take k) : Int) - (sizS (recS none (l.segs.take k)) : Int) + (s.bytes.length : Int) = (sizS (l.segs.take (k + 1)) : Int) - (sizS (recS none (l.segs.take (k + 1))) : Int) := by rw [hr1', hz1]; push_cast; omega
           rw [← hr1'] at hzc hq ⊢
           refine go_exit ?_
           (refine sI ?_; try with_reducible exact True.intro)
           refine go_ghost (ghost_sub (.cons _ (List.Sublist.refl _))) ?_
           (intros; try refine go_st ?_); refine go_r 91 92 (by decide) ?_; (refine sJ2 c24r12.eq_1 @hw ?_; try with_reducible exact True.intro)
           (intros; try refine go_st ?_)
           refine go_l ⟨⟨k + 1, G', A2, c2, zc, ⟨by omega, hg', hzc⟩, eE, eE, eE, (eJ @hq), rfl⟩, ?_⟩
           (refine sI ?_; try with_reducible exact True.intro)
           omega
         · have k6 : folB p s = true := by simpa using k6
           rw [k6] at hkp
           (repeat first | (with_reducible intro _) | refine go_skip ?_ | refine go_b ?_)
           exact go_l ⟨hkp, eE, eE, eE, eE, rfl⟩
       · have k4 : k = 0 := by have := of_decide_eq_false k4; omega
         have hkp : keeps (endP none (l.segs.take k)) s = true := by rw [k4]; rfl
         (refine sI ?_; try with_reducible exact True.intro)
         (intros; try refine go_st ?_); refine go_c ?_; (refine sI ?_; try with_reducible exact True.intro)
         (repeat first | (with_reducible intro _) | refine go_skip ?_ | refine go_b ?_)
         exact go_l ⟨hkp, eE, eE, eE, eE, rfl⟩
     rintro e h ⟨hkeep, e35, e34, e33, e3, rfl⟩
     refine go_keep [3, 33, 34, 35] ?_
     (refine sJ4 @e3 @e33 @e34 @e35 ?_; try with_reducible exact True.intro)
     rw [hkeep, if_pos rfl] at hr1
     have hgl : (fixS s).1.bytes.length ≤ s.bytes.length := by
       show (s.bytes.take _).length ≤ _
       rw [List.length_take]
       omega
     have hw3 : IntKind.i64.wrap ((sizS (l.segs.take k) : Int) - (sizS (recS none (l.segs.take k)) : Int) + (s.bytes.length : Int) - ((fixS s).1.bytes.length : Int)) = (sizS (l.segs.take (k + 1)) : Int) - (sizS (recS none (l.segs.take (k + 1))) : Int) := by
       rw [hr1, sizS_app, hz1]
       simp only [sizS]
       rw [w64_id] <;> omega
     generalize (sizS (l.segs.take k) : Int) - (sizS (recS none (l.segs.take k)) : Int) + (s.bytes.length : Int) = D0 at *
     have hfb : (fixS s).1.base = s.base := rfl
     generalize fixS s = q at *
     obtain ⟨s', er⟩ := q
     dsimp only at hr1 hgl hw3 hfb
     (intros; try refine go_st ?_); refine go_r 75 80 (by decide) ?_; (refine sJ c24r9.eq_1 ?_; try with_reducible exact True.intro)
     refine (hfix _ _).mono ?_
     rintro r h' ⟨G2, rfl, hg2, A3, c3, rfl, hs3⟩
     (refine sI ?_; try with_reducible exact True.intro)
     (intros; try refine go_st ?_); refine go_r 80 85 (by decide) ?_; (refine sJ2 c24r10.eq_1 @hw3 ?_; try with_reducible exact True.intro)
     have hzc2 : Cells (SE G2) 2 (recS none (l.segs.take k)) zc := cells_imp hzc fun _ _ h => SE.le hg2 h
     have hse3 : SE G2 s' [.int .i64 s'.base, .slice A3 s'.bytes.length c3] := ⟨A3, c3, rfl, hs3, by rw [hfb]; exact hsi⟩
     (intros; try refine go_st ?_); refine go_r 86 90 (by decide) ?_; (refine sJ c24r11.eq_1 ?_; try with_reducible exact True.intro)
     intro bk hbk
     refine app1 (L1 := [_, _]) (L2 := [_, _]) (E := SE G2) (x := s') rfl hse3 rfl (by simp [Value.oneCell']) hzc2 (by omega) (by omega) fun A' c' zc' hzc' => ?_
     rw [← hr1] at hzc' ⊢
     (refine sI ?_; try with_reducible exact True.intro)
     (repeat (with_reducible intro _))
     refine go_ghost (ghost_sub (.cons _ (.cons _ (.cons _ (List.Sublist.refl _))))) ?_
     (intros; try refine go_st ?_); refine go_r 91 92 (by decide) ?_; (refine sJ2 c24r12.eq_1 @hw ?_; try with_reducible exact True.intro)
     (intros; try refine go_st ?_)
     refine go_l ⟨⟨k + 1, G2, A', c', zc', ⟨by omega, hg'.trans hg2, hzc'⟩, eE, eE, eE, eE, rfl⟩, ?_⟩
     (refine sI ?_; try with_reducible exact True.intro)
     omega
   · have ht : k = l.segs.length := by have := of_decide_eq_false ht; omega
     subst ht
     rw [List.take_length] at hzc e3 ⊢
     refine go_exit ?_
     (refine sI ?_; try with_reducible exact True.intro)
     (repeat first | (with_reducible intro _) | refine go_skip ?_ | refine go_b ?_)
     exact go_l ⟨G', A2, c2, zc, ⟨hg', hzc⟩, eE, rfl⟩
 rintro e h ⟨G1, A2, c2, zc, ⟨hg1, hzc⟩, e3, rfl⟩
 refine go_keep [3] ?_
 (refine sJ @e3 ?_; try with_reducible exact True.intro)
 (repeat (with_reducible intro _))
 refine go_gx (gx_slv_at [] _ (by decide) hzc) ?_
 rintro h' ⟨G2, rfl, hg2, hv2⟩
 (intros; try refine go_st ?_); refine go_r 92 94 (by decide) ?_; (refine sJ c24r13.eq_1 ?_; try with_reducible exact True.intro)
 (intros; try refine go_st ?_)
 refine go_ret (retQ_v rfl ?_); simp only [push_cast, Nat.reduceBEq]
 exact ⟨_, rfl, A2, c2, rfl, hv2.le (.refl _) fun _ _ h => SE.le hg2 h, hi, hj⟩
theorem F51 : Fun Try.prog 51 17 v51 c51 o51 := Fun.mk' Try.func51 Try.ntmps51 (by kernel_rfl) (by kernel_rfl) s51 q51
theorem F15 : Fun Try.prog 15 27 v15 c15 o15 := Fun.mk' Try.func15 Try.ntmps15 (by kernel_rfl) (by kernel_rfl) s15 q15
theorem SSame_ok (s t : Sg) (cs ds : List Value) (G : Nat → Option Obj) (hs : SE G s cs) (ht : SE G t ds) : FnS Try.prog 51 #[.agg cs.toArray, .agg ds.toArray] G (.bool (decide (s = t))) := by
 obtain ⟨A, c, rfl, hl, hi⟩ := hs
 obtain ⟨B, d, rfl, hm, hj⟩ := ht
 have hd : decide (s = t) = (decide (s.base = t.base) && decide (s.bytes = t.bytes)) := by
   rw [← Bool.decide_and]
   apply decide_eq_decide.2
   constructor
   · rintro rfl; exact ⟨rfl, rfl⟩
   · rintro ⟨h1, h2⟩; cases s; cases t; simp_all
 rw [hd]
 refine F51.fnS (by simp) (go_of ?_)
 unfold c51 cellS
 (intros; try refine go_st ?_); refine go_r 0 0 (by decide) ?_; (refine sJ c51r0.eq_1 ?_; try with_reducible exact True.intro)
 (intros; try refine go_st ?_); refine go_r 6 17 (by decide) ?_; (refine sJ c51r1.eq_1 ?_; try with_reducible exact True.intro)
 refine gd (fun k1 => ?_) (fun k1 => ?_)
 · (refine sI ?_; try with_reducible exact True.intro)
   refine (BSame_ok _ _ _ _ _ hl hm _ _).mono ?_; rintro _ _ ⟨rfl, rfl⟩; (refine sI ?_; try with_reducible exact True.intro)
   (intros; try refine go_st ?_)
   refine go_ret (retQ_v rfl ?_); simp only [push_cast, Nat.reduceBEq]
   rw [k1, Bool.true_and]
 · (refine sI ?_; try with_reducible exact True.intro)
   (intros; try refine go_st ?_)
   refine go_ret (retQ_v rfl ?_); simp only [push_cast, Nat.reduceBEq]
   rw [k1, Bool.false_and]
theorem SameAll_ok (a b : List Batch) (v u : Value) (G : Nat → Option Obj) (ha : SlV G (BE G) 10 v a) (hb : SlV G (BE G) 10 u b) : FnS Try.prog 15 #[v, u] G (.bool (decide (a = b))) := by
 obtain ⟨A, c, rfl, hc, hm, hA⟩ := ha
 obtain ⟨B, d, rfl, hd, hn, hB⟩ := hb
 refine F15.fnS (by simp) (go_of ?_)
 unfold c15
 (intros; try refine go_st ?_); refine go_r 0 0 (by decide) ?_; (refine sJ c15r0.eq_1 ?_; try with_reducible exact True.intro)
 (intros; try refine go_st ?_); refine go_r 6 10 (by decide) ?_; (refine sJ c15r1.eq_1 ?_; try with_reducible exact True.intro)
 (intros; try refine go_st ?_); refine go_c ?_; (refine sI ?_; try with_reducible exact True.intro)
 refine gb (fun h1 => ?_) (fun h1 => ?_)
 · have h1 := of_decide_eq_true h1
   (intros; try refine go_st ?_); refine go_r 0 0 (by decide) ?_; (refine sJ c15r2.eq_1 ?_; try with_reducible exact True.intro)
   (intros; try refine go_st ?_)
   refine go_ret (retQ_v rfl ?_); simp only [push_cast, Nat.reduceBEq]
   rw [decide_eq_false fun h => h1 (by rw [h])]
 have h1 : a.length = b.length := by have := of_decide_eq_false h1; omega
 (repeat first | (with_reducible intro _) | refine go_skip ?_ | refine go_b ?_)
 (intros; try refine go_st ?_); refine go_r 11 12 (by decide) ?_; (refine sJ c15r3.eq_1 ?_; try with_reducible exact True.intro)
 (intros; try refine go_st ?_)
 refine go_loop (fun e h => ∃ k : Nat, (k ≤ a.length ∧ a.take k = b.take k) ∧ e 13 = .int .i64 k ∧ e 12 = .int .i64 a.length ∧ e 0 = .slice A a.length c ∧ e 1 = .slice B b.length d ∧ h = ⟨G, [], []⟩) (fun e h => a.length - iv (e 13)) ?_ ?_
 · exact ⟨0, ⟨Nat.zero_le _, rfl⟩, eE, eE, eE, eE, rfl⟩
 · rintro e h ⟨k, ⟨hk, htk⟩, e13, e12, e0, e1, rfl⟩
   refine go_keep [0, 1, 12, 13] ?_
   (refine sJ4 @e0 @e1 @e12 @e13 ?_; try with_reducible exact True.intro)
   (intros; try refine go_st ?_); refine go_r 0 0 (by decide) ?_; (refine sJ c15r4.eq_1 ?_; try with_reducible exact True.intro)
   (intros; try refine go_st ?_); refine go_c ?_; (refine sI ?_; try with_reducible exact True.intro)
   refine gb (fun ht => ?_) (fun ht => ?_)
   · have ht : k < a.length := by have := of_decide_eq_true ht; omega
     have hw := inc_i k c (by omega) hm
     obtain ⟨x, hx⟩ : ∃ x, a[k]? = some x := ⟨a[k], List.getElem?_eq_getElem (by omega)⟩
     obtain ⟨y, hy⟩ : ∃ y, b[k]? = some y := ⟨b[k], List.getElem?_eq_getElem (by omega)⟩
     (repeat first | (with_reducible intro _) | refine go_skip ?_ | refine go_b ?_)
     (intros; try refine go_st ?_); refine go_r 15 16 (by decide) ?_; (refine sJ c15r5.eq_1 ?_; try with_reducible exact True.intro)
     (intros; try refine go_st ?_); refine go_x _ (List.Sublist.refl _) (by decide) ?_; (refine sJ c15r6.eq_1 ?_; try with_reducible exact True.intro)
     refine hA.y_ld hx rfl rfl ?_
     rintro a1 ha1 cs hbx
     (refine sI ?_; try with_reducible exact True.intro)
     refine hB.y_ld hy rfl rfl ?_
     rintro a2 ha2 ds hby
     have hsm := RSame_ok x y cs ds G hbx hby
     obtain ⟨B1, d1, rfl, -⟩ := hbx
     obtain ⟨B2, d2, rfl, -⟩ := hby
     unfold cellH at hsm ⊢
     (refine sI ?_; try with_reducible exact True.intro)
     refine (hsm _ _).mono ?_; rintro _ _ ⟨rfl, rfl⟩; (refine sI ?_; try with_reducible exact True.intro)
     (intros; try refine go_st ?_); refine go_c ?_; (refine sI ?_; try with_reducible exact True.intro)
     refine gb (fun h3 => ?_) (fun h3 => ?_)
     · have h3 : ¬ x = y := by simpa using h3
       (intros; try refine go_st ?_); refine go_r 0 0 (by decide) ?_; (refine sJ c15r7.eq_1 ?_; try with_reducible exact True.intro)
       (intros; try refine go_st ?_)
       refine go_ret (retQ_v rfl ?_); simp only [push_cast, Nat.reduceBEq]
       rw [decide_eq_false fun h => h3 (by rw [h, hy] at hx; cases hx; rfl)]
     · have h3 : x = y := by simpa using h3
       (repeat first | (with_reducible intro _) | refine go_skip ?_ | refine go_b ?_)
       (intros; try refine go_st ?_); refine go_r 26 27 (by decide) ?_; (refine sJ2 c15r8.eq_1 @hw ?_; try with_reducible exact True.intro)
       (intros; try refine go_st ?_)
       refine go_l ⟨⟨k + 1, ⟨by omega, take_succ_eq htk hx hy h3⟩, eE, eE, eE, eE, rfl⟩, ?_⟩
       (refine sI ?_; try with_reducible exact True.intro)
       omega
   · have ht : k = a.length := by have := of_decide_eq_false ht; omega
     refine go_exit ?_
     (refine sI ?_; try with_reducible exact True.intro)
     (intros; try refine go_st ?_); refine go_r 0 0 (by decide) ?_; (refine sJ c15r9.eq_1 ?_; try with_reducible exact True.intro)
     (intros; try refine go_st ?_)
     refine go_ret (retQ_v rfl ?_); simp only [push_cast, Nat.reduceBEq]
     rw [decide_eq_true (same_take ht h1 htk)]
theorem F30 : Fun Try.prog 30 14 v30 c30 o30 := Fun.mk' Try.func30 Try.ntmps30 (by kernel_rfl) (by kernel_rfl) s30 q30
theorem F26 : Fun Try.prog 26 46 v26 c26 o26 := Fun.mk' Try.func26 Try.ntmps26 (by kernel_rfl) (by kernel_rfl) s26 q26
theorem F29 : Fun Try.prog 29 20 v29 c29 o29 := Fun.mk' Try.func29 Try.ntmps29 (by kernel_rfl) (by kernel_rfl) s29 q29
theorem F18 : Fun Try.prog 18 39 v18 c18 o18 := Fun.mk' Try.func18 Try.ntmps18 (by kernel_rfl) (by kernel_rfl) s18 q18
def thB (n : Int) : Batch := ⟨n, n + 2, n, 0, -1, 0, 0, false, 0, [⟨n, ⟨#[]⟩, ⟨#[118]⟩, false, 0⟩, ⟨n + 2, ⟨#[]⟩, ⟨#[119]⟩, false, 0⟩]⟩
theorem three_ok (n : Int) (G : Nat → Option Obj) (h0 : 0 ≤ n) (h1 : n ≤ 1000) : FnD Try.prog 30 #[.int .i64 n] G (fun G' r => ∃ B d, r = .agg (cellH (thB n) (.slice B 2 d)).toArray ∧ BE G' (thB n) (cellH (thB n) (.slice B 2 d))) := by
 have hw : IntKind.i64.wrap (n + 2) = n + 2 := by rw [w64_id] <;> omega
 refine F30.fnD (by simp) (go_of ?_)
 unfold c30
 (intros; try refine go_st ?_); refine go_r 0 0 (by decide) ?_; (refine sJ c30r0.eq_1 ?_; try with_reducible exact True.intro)
 (intros; try refine go_st ?_); refine go_r 3 14 (by decide) ?_; (refine sJ2 c30r1.eq_1 @hw ?_; try with_reducible exact True.intro)
 intro b hb
 (refine sI ?_; try with_reducible exact True.intro)
 (repeat (with_reducible intro _)); try refine go_seq ?_
 have z0 : (ByteArray.mk #[]).size ≤ maxLen := by decide
 have z1 : (ByteArray.mk #[118]).size ≤ maxLen := by decide
 have z2 : (ByteArray.mk #[119]).size ≤ maxLen := by decide
 have hra : Cells RR 5 (thB n).recs [.int .i64 n, .string ⟨#[]⟩, .string ⟨#[118]⟩, .bool false, .int .i64 0, .int .i64 (n + 2), .string ⟨#[]⟩, .string ⟨#[119]⟩, .bool false, .int .i64 0] :=
   .cons (cs := [_, _, _, _, _]) ⟨rfl, ⟨by dsimp only; unfold I64; omega, i64_0⟩, z0, z1⟩ rfl (.one ⟨rfl, ⟨by dsimp only; unfold I64; omega, i64_0⟩, z0, z2⟩ rfl)
 refine go_gx (gx_slv_at [] _ (by decide) hra) ?_
 rintro h' ⟨G2, rfl, hg2, A2, c2, hA2, hc2, hm2, hs2⟩
 cases hA2
 (intros; try refine go_st ?_)
 refine go_ret (retQ_v rfl ?_); simp only [push_cast, Nat.reduceBEq]
 exact ⟨some ⟨b, 0, none⟩, 2, rfl, some ⟨b, 0, none⟩, 2, rfl, ⟨hc2, hm2, hs2⟩, by unfold I64 thB; dsimp only; omega, by unfold I64 thB; dsimp only; omega, by unfold I64 thB; dsimp only; omega, i64_0, (by decide : I64 (-1)), i64_0, i64_0, i64_0⟩
theorem LSame_ok (a b : Lg) (cs ds : List Value) (G : Nat → Option Obj) (ha : LE G a cs) (hb : LE G b ds) : FnS Try.prog 26 #[.agg cs.toArray, .agg ds.toArray] G (.bool (decide (a = b))) := by
 obtain ⟨A, c, rfl, ⟨A0, c0, he, hc, hm, hA⟩, hi, hj⟩ := ha
 cases he
 obtain ⟨B, d, rfl, ⟨B0, d0, he, hd, hn, hB⟩, hi2, hj2⟩ := hb
 cases he
 have hde : a = b ↔ a.limit = b.limit ∧ a.start = b.start ∧ a.segs = b.segs := by
   constructor
   · rintro rfl; exact ⟨rfl, rfl, rfl⟩
   · rintro ⟨h1, h2, h3⟩; cases a; cases b; simp_all
 refine F26.fnS (by simp) (go_of ?_)
 unfold c26 cellL
 (intros; try refine go_st ?_); refine go_r 0 0 (by decide) ?_; (refine sJ c26r0.eq_1 ?_; try with_reducible exact True.intro)
 (intros; try refine go_st ?_); refine go_r 7 26 (by decide) ?_; (refine sJ c26r1.eq_1 ?_; try with_reducible exact True.intro)
 refine gd (fun k1 => ?_) (fun k1 => ?_)
 · have k1 := of_decide_eq_true k1
   (refine sI ?_; try with_reducible exact True.intro)
   (intros; try refine go_st ?_); refine go_c ?_; (refine sI ?_; try with_reducible exact True.intro)
   (intros; try refine go_st ?_); refine go_r 0 0 (by decide) ?_; (refine sJ c26r2.eq_1 ?_; try with_reducible exact True.intro)
   (intros; try refine go_st ?_)
   refine go_ret (retQ_v rfl ?_); simp only [push_cast, Nat.reduceBEq]
   rw [decide_eq_false fun h => k1 (hde.1 h).1]
 have k1 : a.limit = b.limit := by simpa using k1
 (refine sI ?_; try with_reducible exact True.intro)
 refine gd (fun k2 => ?_) (fun k2 => ?_)
 · have k2 := of_decide_eq_true k2
   (refine sI ?_; try with_reducible exact True.intro)
   (intros; try refine go_st ?_); refine go_c ?_; (refine sI ?_; try with_reducible exact True.intro)
   (intros; try refine go_st ?_); refine go_r 0 0 (by decide) ?_; (refine sJ c26r2.eq_1 ?_; try with_reducible exact True.intro)
   (intros; try refine go_st ?_)
   refine go_ret (retQ_v rfl ?_); simp only [push_cast, Nat.reduceBEq]
   rw [decide_eq_false fun h => k2 (hde.1 h).2.1]
 have k2 : a.start = b.start := by simpa using k2
 (refine sI ?_; try with_reducible exact True.intro)
 (intros; try refine go_st ?_); refine go_c ?_; (refine sI ?_; try with_reducible exact True.intro)
 refine gb (fun k3 => ?_) (fun k3 => ?_)
 · have k3 := of_decide_eq_true k3
   (intros; try refine go_st ?_); refine go_r 0 0 (by decide) ?_; (refine sJ c26r2.eq_1 ?_; try with_reducible exact True.intro)
   (intros; try refine go_st ?_)
   refine go_ret (retQ_v rfl ?_); simp only [push_cast, Nat.reduceBEq]
   rw [decide_eq_false fun h => k3 (by rw [(hde.1 h).2.2])]
 have k3 : a.segs.length = b.segs.length := by have := of_decide_eq_false k3; omega
 (repeat first | (with_reducible intro _) | refine go_skip ?_ | refine go_b ?_)
 (intros; try refine go_st ?_); refine go_r 0 0 (by decide) ?_; (refine sJ c26r3.eq_1 ?_; try with_reducible exact True.intro)
 (intros; try refine go_st ?_)
 refine go_loop (fun e h => ∃ k : Nat, (k ≤ a.segs.length ∧ a.segs.take k = b.segs.take k) ∧ e 5 = .int .i64 k ∧ h = ⟨G, [.reg 3 [.int .i64 b.limit, .int .i64 b.start, .slice B b.segs.length d], .reg 2 [.int .i64 a.limit, .int .i64 a.start, .slice A a.segs.length c]], []⟩) (fun e h => a.segs.length - iv (e 5)) ?_ ?_
 · exact ⟨0, ⟨Nat.zero_le _, rfl⟩, eE, rfl⟩
 rintro e h ⟨k, ⟨hk, htk⟩, e5, rfl⟩
 refine go_keep [5] ?_
 (refine sJ @e5 ?_; try with_reducible exact True.intro)
 (intros; try refine go_st ?_); refine go_r 27 31 (by decide) ?_; (refine sJ c26r4.eq_1 ?_; try with_reducible exact True.intro)
 (intros; try refine go_st ?_); refine go_c ?_; (refine sI ?_; try with_reducible exact True.intro)
 refine gb (fun ht => ?_) (fun ht => ?_)
 · have ht : k < a.segs.length := by have := of_decide_eq_true ht; omega
   have hw := inc_i k c (by omega) hm
   obtain ⟨x, hx⟩ : ∃ x, a.segs[k]? = some x := ⟨a.segs[k], List.getElem?_eq_getElem (by omega)⟩
   obtain ⟨y, hy⟩ : ∃ y, b.segs[k]? = some y := ⟨b.segs[k], List.getElem?_eq_getElem (by omega)⟩
   (repeat first | (with_reducible intro _) | refine go_skip ?_ | refine go_b ?_)
   (intros; try refine go_st ?_); refine go_x _ (List.Sublist.refl _) (by decide) ?_; (refine sJ c26r5.eq_1 ?_; try with_reducible exact True.intro)
   refine hA.y_ld hx rfl rfl ?_
   rintro a1 ha1 cs hbx
   (refine sI ?_; try with_reducible exact True.intro)
   refine hB.y_ld hy rfl rfl ?_
   rintro a2 ha2 ds hby
   have hsm := SSame_ok x y cs ds G hbx hby
   obtain ⟨B1, d1, rfl, -⟩ := hbx
   obtain ⟨B2, d2, rfl, -⟩ := hby
   unfold cellS at hsm ⊢
   (refine sI ?_; try with_reducible exact True.intro)
   refine (hsm _ _).mono ?_; rintro _ _ ⟨rfl, rfl⟩; (refine sI ?_; try with_reducible exact True.intro)
   (intros; try refine go_st ?_); refine go_c ?_; (refine sI ?_; try with_reducible exact True.intro)
   refine gb (fun h3 => ?_) (fun h3 => ?_)
   · have h3 : ¬ x = y := by simpa using h3
     (intros; try refine go_st ?_); refine go_r 0 0 (by decide) ?_; (refine sJ c26r6.eq_1 ?_; try with_reducible exact True.intro)
     (intros; try refine go_st ?_)
     refine go_ret (retQ_v rfl ?_); simp only [push_cast, Nat.reduceBEq]
     rw [decide_eq_false fun h => h3 (by have := (hde.1 h).2.2; rw [this, hy] at hx; cases hx; rfl)]
   · have h3 : x = y := by simpa using h3
     (repeat first | (with_reducible intro _) | refine go_skip ?_ | refine go_b ?_)
     (intros; try refine go_st ?_); refine go_r 32 34 (by decide) ?_; (refine sJ2 c26r7.eq_1 @hw ?_; try with_reducible exact True.intro)
     (intros; try refine go_st ?_)
     refine go_l ⟨⟨k + 1, ⟨by omega, take_succ_eq htk hx hy h3⟩, eE, rfl⟩, ?_⟩
     (refine sI ?_; try with_reducible exact True.intro)
     omega
 · have ht : k = a.segs.length := by have := of_decide_eq_false ht; omega
   refine go_exit ?_
   (refine sI ?_; try with_reducible exact True.intro)
   (intros; try refine go_st ?_); refine go_r 0 0 (by decide) ?_; (refine sJ c26r8.eq_1 ?_; try with_reducible exact True.intro)
   (intros; try refine go_st ?_)
   refine go_ret (retQ_v rfl ?_); simp only [push_cast, Nat.reduceBEq]
   rw [decide_eq_true (hde.2 ⟨k1, k2, same_take ht k3 htk⟩)]
theorem among_ok (bs : List Batch) (x : Batch) (v : Value) (ds : List Value) (G : Nat → Option Obj) (hbs : SlV G (BE G) 10 v bs) (hx : BE G x ds) : FnS Try.prog 29 #[v, .agg ds.toArray] G (.bool (amg bs x)) := by
 obtain ⟨A, c, rfl, hc, hm, hA⟩ := hbs
 obtain ⟨B, d, rfl, -⟩ := hx
 refine F29.fnS (by simp) (go_of ?_)
 unfold c29 cellH
 (intros; try refine go_st ?_); refine go_r 0 0 (by decide) ?_; (refine sJ c29r0.eq_1 ?_; try with_reducible exact True.intro)
 (intros; try refine go_st ?_); refine go_r 0 0 (by decide) ?_; (refine sJ c29r1.eq_1 ?_; try with_reducible exact True.intro)
 (intros; try refine go_st ?_)
 refine go_loop (fun e h => ∃ k : Nat, (k ≤ bs.length ∧ ∀ y ∈ bs.take k, ¬ y.base = x.base) ∧ e 5 = .int .i64 k ∧ e 0 = .slice A bs.length c ∧ h = ⟨G, [.reg 3 [.int .i64 x.base, .int .i64 x.last, .int .i64 x.src, .int .i64 x.epoch, .int .i64 x.pid, .int .i64 x.gen, .int .i64 x.seq, .bool x.txn, .int .i64 x.ctl, .slice B x.recs.length d]], []⟩) (fun e h => bs.length - iv (e 5)) ?_ ?_
 · exact ⟨0, ⟨Nat.zero_le _, by simp⟩, eE, eE, rfl⟩
 rintro e h ⟨k, ⟨hk, hall⟩, e5, e0, rfl⟩
 refine go_keep [0, 5] ?_
 (refine sJ2 @e0 @e5 ?_; try with_reducible exact True.intro)
 (intros; try refine go_st ?_); refine go_r 6 9 (by decide) ?_; (refine sJ c29r2.eq_1 ?_; try with_reducible exact True.intro)
 (intros; try refine go_st ?_); refine go_c ?_; (refine sI ?_; try with_reducible exact True.intro)
 refine gb (fun ht => ?_) (fun ht => ?_)
 · have ht : k < bs.length := by have := of_decide_eq_true ht; omega
   have hw := inc_i k c (by omega) hm
   obtain ⟨y, hy⟩ : ∃ y, bs[k]? = some y := ⟨bs[k], List.getElem?_eq_getElem (by omega)⟩
   (repeat first | (with_reducible intro _) | refine go_skip ?_ | refine go_b ?_)
   (intros; try refine go_st ?_); refine go_q 12 19 (by decide) ?_; (refine sJ c29r3.eq_1 ?_; try with_reducible exact True.intro)
   refine hA.y_lf (k := k) (u := .int .i64 y.base) hy rfl rfl (fun cs h => by obtain ⟨_, _, rfl, -⟩ := h; rfl) fun a ha => ?_
   (refine sI ?_; try with_reducible exact True.intro)
   (intros; try refine go_st ?_); refine go_c ?_; (refine sI ?_; try with_reducible exact True.intro)
   refine gb (fun k1 => ?_) (fun k1 => ?_)
   · have k1 := of_decide_eq_true k1
     (intros; try refine go_st ?_); refine go_r 0 0 (by decide) ?_; (refine sJ c29r4.eq_1 ?_; try with_reducible exact True.intro)
     (intros; try refine go_st ?_)
     refine go_ret (retQ_v rfl ?_); simp only [push_cast, Nat.reduceBEq]
     rw [amg_iff.2 ⟨y, List.mem_of_getElem? hy, k1⟩]
   · have k1 := of_decide_eq_false k1
     (repeat first | (with_reducible intro _) | refine go_skip ?_ | refine go_b ?_)
     (intros; try refine go_st ?_); refine go_r 10 12 (by decide) ?_; (refine sJ2 c29r5.eq_1 @hw ?_; try with_reducible exact True.intro)
     (intros; try refine go_st ?_)
     refine go_l ⟨⟨k + 1, ⟨by omega, fun z hz => ?_⟩, eE, eE, rfl⟩, ?_⟩
     · rw [take_snoc' hy] at hz
       rcases List.mem_append.1 hz with h | h
       · exact hall z h
       · simp at h; subst h; exact k1
     · (refine sI ?_; try with_reducible exact True.intro); omega
 · have ht : k = bs.length := by have := of_decide_eq_false ht; omega
   subst ht
   rw [List.take_length] at hall
   refine go_exit ?_
   (refine sI ?_; try with_reducible exact True.intro)
   (intros; try refine go_st ?_); refine go_r 0 0 (by decide) ?_; (refine sJ c29r6.eq_1 ?_; try with_reducible exact True.intro)
   (intros; try refine go_st ?_)
   refine go_ret (retQ_v rfl ?_); simp only [push_cast, Nat.reduceBEq]
   have : amg bs x = false := by
     by_cases h : amg bs x = true
     · obtain ⟨y, hy, e⟩ := amg_iff.1 h
       exact absurd e (hall y hy)
     · simpa using h
   rw [this]
theorem fromB_at {bs : List Batch} {k : Nat} {x : Batch} (low high : Int) (h : bs[k]? = some x) : fromB (bs.take (k + 1)) low high = fromB (bs.take k) low high ++ if (decide (low ≤ x.last) && decide (x.last < high)) = true then [x] else [] := by
 unfold fromB
 rw [take_snoc' h, List.filter_append]
 congr 1
 simp only [List.filter_cons, List.filter_nil]
theorem fromL_ok (bs : List Batch) (low high : Int) (v : Value) (G : Nat → Option Obj) (hbs : SlV G (BE G) 10 v bs) (hn : bs.length ≤ 1000000) : FnO Try.prog 18 #[v, .int .i64 low, .int .i64 high] G [] (fun _ L' r => OwnL (BE G) 35 10 (fromB bs low high) L' r) := by
 obtain ⟨A, c, rfl, hc, hm, hA⟩ := hbs
 refine F18.fnO (by simp) noRegs_nil (go_of ?_)
 unfold c18
 (intros; try refine go_st ?_); refine go_r 0 0 (by decide) ?_; (refine sJ c18r0.eq_1 ?_; try with_reducible exact True.intro)
 (intros; try refine go_st ?_); refine go_r 0 0 (by decide) ?_; (refine sJ c18r1.eq_1 ?_; try with_reducible exact True.intro)
 (intros; try refine go_st ?_); refine go_r 0 0 (by decide) ?_; (refine sJ c18r2.eq_1 ?_; try with_reducible exact True.intro)
 (intros; try refine go_st ?_)
 refine go_ghost (ghost_nil none 35 10) ?_
 refine go_loop (fun e h => ∃ (k : Nat) (u : Value) (zc : List Value), (k ≤ bs.length ∧ Cells (BE G) 10 (fromB (bs.take k) low high) zc) ∧ e 8 = .int .i64 k ∧ e 0 = .slice A bs.length c ∧ e 1 = .int .i64 low ∧ e 2 = .int .i64 high ∧ e 7 = u ∧ h = ⟨G, [.row u 35 10 (fromB (bs.take k) low high).length zc], []⟩) (fun e h => bs.length - iv (e 8)) ?_ ?_
 · exact ⟨0, .slice none 0 0, [], ⟨Nat.zero_le _, .nil⟩, eE, eE, eE, eE, eE, rfl⟩
 rintro e h ⟨k, u, zc, ⟨hk, hzc⟩, e8, e0, e1, e2, e7, rfl⟩
 refine go_keep [0, 1, 2, 7, 8] ?_
 (refine sJ5 @e0 @e1 @e2 @e7 @e8 ?_; try with_reducible exact True.intro)
 (intros; try refine go_st ?_); refine go_r 9 12 (by decide) ?_; (refine sJ c18r3.eq_1 ?_; try with_reducible exact True.intro)
 (intros; try refine go_st ?_); refine go_c ?_; (refine sI ?_; try with_reducible exact True.intro)
 refine gb (fun ht => ?_) (fun ht => ?_)
 · have ht : k < bs.length := by have := of_decide_eq_true ht; omega
   have hw := inc_i k c (by omega) hm
   obtain ⟨x, hx⟩ : ∃ x, bs[k]? = some x := ⟨bs[k], List.getElem?_eq_getElem (by omega)⟩
   have hfr := fromB_at low high hx
   have hle : (fromB (bs.take k) low high).length ≤ k := by
     have : (fromB (bs.take k) low high).length ≤ (bs.take k).length := List.length_filter_le _ _
     rw [List.length_take] at this
     omega
   (repeat first | (with_reducible intro _) | refine go_skip ?_ | refine go_b ?_)
   (repeat (with_reducible intro _)); try refine go_seq ?_
   refine go_cut (fun e h => ∃ (u : Value) (zc : List Value) (Lh : List Kx.Item), Cells (BE G) 10 (fromB (bs.take (k + 1)) low high) zc ∧ e 8 = .int .i64 k ∧ e 0 = .slice A bs.length c ∧ e 1 = .int .i64 low ∧ e 2 = .int .i64 high ∧ e 7 = u ∧ h = ⟨G, Lh, []⟩ ∧ ([.row u 35 10 (fromB (bs.take (k + 1)) low high).length zc] : List Kx.Item).Sublist Lh) ?_ ?_
   · (intros; try refine go_st ?_); refine go_r 15 30 (by decide) ?_; (refine sJ c18r4.eq_1 ?_; try with_reducible exact True.intro)
     refine hA.x_lf (k := k) (u := .int .i64 x.last) hx rfl rfl (fun cs h => by obtain ⟨_, _, rfl, -⟩ := h; rfl) fun a ha => ?_
     (refine sI ?_; try with_reducible exact True.intro)
     have hno : ∀ (X : Prop), ¬ (decide (low ≤ x.last) && decide (x.last < high)) = true → fromB (bs.take (k + 1)) low high = fromB (bs.take k) low high := fun _ h => by rw [hfr, if_neg h, List.append_nil]
     refine gd (fun k1 => ?_) (fun k1 => ?_)
     · (refine sI ?_; try with_reducible exact True.intro)
       refine hA.x_lf (k := k) (u := .int .i64 x.last) hx rfl rfl (fun cs h => by obtain ⟨_, _, rfl, -⟩ := h; rfl) fun a ha => ?_
       (refine sI ?_; try with_reducible exact True.intro)
       (intros; try refine go_st ?_); refine go_c ?_; (refine sI ?_; try with_reducible exact True.intro)
       refine gb (fun k2 => ?_) (fun k2 => ?_)
       · rw [k1, k2, Bool.and_self, if_pos rfl] at hfr
         clear hno
         (intros; try refine go_st ?_); refine go_r 31 38 (by decide) ?_; (refine sJ c18r5.eq_1 ?_; try with_reducible exact True.intro)
         refine hA.x_ld hx rfl rfl ?_
         rintro a2 ha2 cs hbe
         have hbe0 := hbe
         obtain ⟨B, d, rfl, -⟩ := hbe
         unfold cellH at hbe0 ⊢
         (refine sI ?_; try with_reducible exact True.intro)
         intro bk hbk
         refine app1 (L1 := []) (L2 := []) (E := BE G) (x := x) rfl hbe0 rfl (by simp [Value.oneCell']) hzc (by omega) (by omega) fun A' c' zc' hzc' => ?_
         rw [← hfr] at hzc' ⊢
         (refine sI ?_; try with_reducible exact True.intro)
         (intros; try refine go_st ?_)
         exact go_l ⟨_, zc', _, hzc', eE, eE, eE, eE, eE, rfl, .cons _ (List.Sublist.refl _)⟩
       · have h := hno True (by rw [k2]; simp)
         rw [← h] at hzc ⊢
         (repeat first | (with_reducible intro _) | refine go_skip ?_ | refine go_b ?_)
         exact go_l ⟨_, zc, _, hzc, eE, eE, eE, eE, eE, rfl, List.Sublist.refl _⟩
     · have h := hno True (by rw [k1]; simp)
       rw [← h] at hzc ⊢
       (refine sI ?_; try with_reducible exact True.intro)
       (intros; try refine go_st ?_); refine go_c ?_; (refine sI ?_; try with_reducible exact True.intro)
       (repeat first | (with_reducible intro _) | refine go_skip ?_ | refine go_b ?_)
       exact go_l ⟨_, zc, _, hzc, eE, eE, eE, eE, eE, rfl, List.Sublist.refl _⟩
   rintro e h ⟨u2, zc2, Lh, hzc2, e8, e0, e1, e2, e7, rfl, hsub⟩
   refine go_keep [0, 1, 2, 7, 8] ?_
   (refine sJ5 @e0 @e1 @e2 @e7 @e8 ?_; try with_reducible exact True.intro)
   (repeat (with_reducible intro _))
   refine go_ghost (ghost_sub hsub) ?_
   (intros; try refine go_st ?_); refine go_r 13 15 (by decide) ?_; (refine sJ2 c18r6.eq_1 @hw ?_; try with_reducible exact True.intro)
   (intros; try refine go_st ?_)
   refine go_l ⟨⟨k + 1, u2, zc2, ⟨by omega, hzc2⟩, eE, eE, eE, eE, eE, rfl⟩, ?_⟩
   (refine sI ?_; try with_reducible exact True.intro)
   omega
 · have ht : k = bs.length := by have := of_decide_eq_false ht; omega
   subst ht
   rw [List.take_length] at hzc ⊢
   refine go_exit ?_
   (refine sI ?_; try with_reducible exact True.intro)
   (intros; try refine go_st ?_); refine go_r 38 39 (by decide) ?_; (refine sJ c18r7.eq_1 ?_; try with_reducible exact True.intro)
   (intros; try refine go_st ?_)
   refine go_ret (retQ_o _ rfl (List.Sublist.refl _) (noRegs_row noRegs_nil) ?_)
   exact ⟨zc, hzc, rfl⟩
theorem sm_of {l : Lg} (h : chkL l = 0) : smL l.segs := fun s hs => by
 obtain ⟨h1, h2, h3, h4⟩ := chkL_0 h
 have := (okS_mem h3 s hs).2
 have := (mayO_iff.1 h1).1.2
 omega
theorem th10_err : errB (thB 10) = 0 := by decide +kernel
theorem th12_err : errB (thB 12) = 0 := by decide +kernel
theorem th10_len : (bytesB (thB 10)).length ≤ 256 := by decide +kernel
def lgA : Lg := ⟨256, 10, [⟨10, []⟩]⟩
def lgB : Lg := ⟨256, 10, [⟨10, bytesB (thB 10)⟩]⟩
def lgD : Lg := ⟨256, 13, [⟨10, bytesB (thB 10)⟩]⟩
theorem may_ex : mayO 256 10 = true := by decide
theorem new_ex : newL 256 10 = (lgA, 0) := by rw [newL, if_pos may_ex]; rfl
theorem chk_A : chkL lgA = 0 := new_chk may_ex
theorem all_A : allL lgA = [] := rfl
theorem app_ex : appL lgA (thB 10) = (lgB, 0) := by
 have h1 : lastS lgA = ⟨10, []⟩ := rfl
 have h2 : appS ⟨10, []⟩ (thB 10) 256 = (⟨10, bytesB (thB 10)⟩, 0) := by
   have := th10_len
   have h3 := appS_w (s := ⟨10, []⟩) (b := thB 10) (limit := 256) (whole_iff.2 ⟨rfl, by decide⟩) (by decide) th10_err (by decide)
   rw [h3, if_neg (by simp; omega)]
   simp
 have := th10_len
 have hl : lgA.limit = 256 := rfl
 rw [appL, if_pos chk_A, if_pos th10_err, if_neg (by decide), if_neg (by rw [hl]; omega), h1, hl, h2, if_pos rfl]
 rfl
theorem chk_B : chkL lgB = 0 := by
 obtain ⟨-, -, h, -⟩ := appL_ok (l := lgA) (b := thB 10) (by rw [app_ex])
 rwa [app_ex] at h
theorem end_B : endL lgB = 13 := by
 obtain ⟨-, -, -, h, -⟩ := appL_ok (l := lgA) (b := thB 10) (by rw [app_ex])
 rw [app_ex] at h
 exact h
theorem all_B : allL lgB = [thB 10] := by
 have := appL_all (l := lgA) (b := thB 10) (by rw [app_ex])
 rw [app_ex, all_A] at this
 exact this
theorem scan_ex : scanB ⟨10, bytesB (thB 10)⟩ = [thB 10] := scan_one (b := thB 10) th10_err
theorem bs_B : bsS lgB.segs = [thB 10] := by
 show bsS [⟨10, bytesB (thB 10)⟩] = _
 rw [bsS_cons, scan_ex, bsS_nil, List.append_nil]
theorem tru_ex : truL lgB 12 = (lgA, 0) := by
 have h1 : betw lgB 12 = true := by rw [betw, end_B]; decide
 have h2 : truS lgB.segs 12 = [⟨10, []⟩] := by
   show ((([⟨10, bytesB (thB 10)⟩] : List Sg).filter fun s => decide (s.base < 12)).map fun s => cutS s 12) = _
   rw [List.filter_cons, if_pos (by decide), List.filter_nil, List.map_cons, List.map_nil, cutS, scan_ex, List.takeWhile_cons, if_neg (by decide)]
   rfl
 rw [truL, if_pos chk_B, if_pos h1, truT, h2, if_neg (by simp)]
 rfl
theorem read_ex : readL lgB 11 0 = ([thB 10], 0) := by
 have h1 : betw lgB 11 = true := by rw [betw, end_B]; decide
 rw [readL, if_pos chk_B, if_neg (by decide), if_pos h1, bs_B, reach_one, if_pos (by decide)]
 rfl
theorem read_ex2 : readL lgB 14 0 = ([], 90) := by
 have h1 : ¬ betw lgB 14 = true := by rw [betw, end_B]; decide
 rw [readL, if_pos chk_B, if_neg (by decide), if_neg h1]
theorem app_ex2 : appL lgB (thB 12) = (noneL, 71) := by
 rw [appL, if_pos chk_B, if_pos th12_err, if_pos (by rw [end_B]; decide)]
theorem trm_ex : trmL lgB 13 = (lgD, 0) := by
 have h1 : betw lgB 13 = true ∧ inO 13 = true := by rw [betw, end_B]; decide
 rw [trmL, if_pos chk_B, if_pos h1]
 rfl
theorem chk_D : chkL lgD = 0 := by
 obtain ⟨h1, h2, h3, h4⟩ := chkL_0 chk_B
 exact chkL_is (by decide) h2 h3 h4
theorem all_D : allL lgD = [] := by
 show reach 13 (bsS lgB.segs) = []
 rw [bs_B, reach_one, if_neg (by decide)]
theorem rep_ex : repL lgB 0 [] = (noneL, 90) := by
 rw [repL, if_pos chk_B, if_neg (by decide)]
theorem chk_none : chkL noneL = 1 := by
 rw [chkL, if_neg (by decide)]
theorem F9 : Fun Try.prog 9 162 v9 c9 o9 := Fun.mk' Try.func9 Try.ntmps9 (by kernel_rfl) (by kernel_rfl) s9 q9
theorem dz0 : decide ((0 : Int) ≠ 0) = false := by decide
set_option maxHeartbeats 2000000 in
theorem CLive_ok (G : Nat → Option Obj) : FnS Try.prog 9 #[] G (.bool true) := by
 refine F9.fnS (by simp) (go_of ?_)
 unfold c9
 (intros; try refine go_st ?_); refine go_r 0 0 (by decide) ?_; (refine sJ c9r0.eq_1 ?_; try with_reducible exact True.intro)
 (intros; try refine go_st ?_); refine go_r 19 23 (by decide) ?_; (refine sJ c9r1.eq_1 ?_; try with_reducible exact True.intro)
 have hnew := CNew_ok 256 10 G
 rw [new_ex] at hnew
 refine (hnew _ _).mono ?_
 rintro r h' ⟨G1, rfl, hg1, cs1, rfl, hle1⟩
 have hle1' := hle1
 obtain ⟨A1, c1, rfl, hs1, hia, hja⟩ := hle1
 unfold cellL at hle1' ⊢
 have hl1 : lgA.limit = 256 := rfl
 have hl2 : lgA.start = 10 := rfl
 have hl3 : lgA.segs.length = 1 := rfl
 rw [hl1, hl2, hl3] at hle1' ⊢
 rw [hl3] at hs1
 have hsmA : smL lgA.segs := sm_of chk_A
 have hsmB : smL lgB.segs := sm_of chk_B
 have hc10 : ∀ B d, cellH (thB 10) (.slice B 2 d) = [.int .i64 10, .int .i64 12, .int .i64 10, .int .i64 0, .int .i64 (-1), .int .i64 0, .int .i64 0, .bool false, .int .i64 0, .slice B 2 d] := fun _ _ => rfl
 have hc12 : ∀ B d, cellH (thB 12) (.slice B 2 d) = [.int .i64 12, .int .i64 14, .int .i64 12, .int .i64 0, .int .i64 (-1), .int .i64 0, .int .i64 0, .bool false, .int .i64 0, .slice B 2 d] := fun _ _ => rfl
 have happA : ∀ G' B d, Gle G1 G' → BE G' (thB 10) [.int .i64 10, .int .i64 12, .int .i64 10, .int .i64 0, .int .i64 (-1), .int .i64 0, .int .i64 0, .bool false, .int .i64 0, .slice B 2 d] → FnD Try.prog 21 #[.agg #[.int .i64 256, .int .i64 10, .slice A1 1 c1], .agg #[.int .i64 10, .int .i64 12, .int .i64 10, .int .i64 0, .int .i64 (-1), .int .i64 0, .int .i64 0, .bool false, .int .i64 0, .slice B 2 d]] G' (LgR (lgB, 0)) := fun G' B d hg hbe => by
   have := CAppend_ok lgA (thB 10) _ _ G' (LE.le hg hle1') hsmA (by decide) hbe
   rwa [app_ex] at this
 (refine sI ?_; try with_reducible exact True.intro)
 (repeat (with_reducible intro _)); try refine go_seq ?_
 refine go_cut (fun e h => ∃ (G2 : Nat → Option Obj) (b3 : Nat) (A2 : Option Addr) (c2 : Nat), (Gle G1 G2 ∧ LE G2 lgB [.int .i64 256, .int .i64 10, .slice A2 1 c2]) ∧ e 2 = .int .i64 0 ∧ e 3 = .pointer (some ⟨b3, 0, none⟩) ∧ e 4 = .int .i64 0 ∧ h = ⟨G2, [.blk b3 [.int .i64 256, .int .i64 10, .slice A2 1 c2], .reg 1 [.int .i64 256, .int .i64 10, .slice A1 1 c1]], []⟩) ?_ ?_
 · (intros; try refine go_st ?_); refine go_z _ (List.Sublist.refl _) (by decide) ?_; (refine sJ c9r2.eq_1 ?_; try with_reducible exact True.intro)
   refine ⟨?_, ?_⟩
   · refine (three_ok 10 G1 (by omega) (by omega) _ _).mono ?_
     rintro r h' ⟨G2, rfl, hg2, B, d, rfl, hbe⟩
     rw [hc10] at hbe ⊢
     (refine sI ?_; try with_reducible exact True.intro)
     refine ⟨grow_G hg2, ?_⟩
     refine ⟨?_, ?_⟩
     · refine (happA G2 B d hg2 hbe _ _).mono ?_
       rintro r h' ⟨G3, rfl, hg3, cs3, rfl, hle3⟩
       have hle3' := hle3
       obtain ⟨A3, c3, rfl, -⟩ := hle3
       unfold cellL at hle3' ⊢
       have hg13 := hg2.trans hg3
       (refine sI ?_; try with_reducible exact True.intro)
       refine ⟨grow_G hg13, ?_⟩
       intro b3 hb3
       refine ⟨grow_L hg13 (.cons _ (List.Sublist.refl _)), ?_⟩
       (refine sI ?_; try with_reducible exact True.intro)
       refine stX_blk [] _ rfl (Nat.le_refl 3) ⟨rfl, rfl⟩ ?_
       (refine sI ?_; try with_reducible exact True.intro)
       refine ⟨grow_L hg13 (.cons _ (List.Sublist.refl _)), ?_⟩
       (refine sI ?_; try with_reducible exact True.intro)
       exact go_l ⟨G3, b3, A3, c3, ⟨hg13, hle3'⟩, eE, eE, eE, rfl⟩
     · intro b3 hb3
       refine ⟨grow_L hg2 (.cons _ (List.Sublist.refl _)), ?_⟩
       refine (happA G2 B d hg2 hbe _ _).mono ?_
       rintro r h' ⟨G3, rfl, hg3, cs3, rfl, hle3⟩
       have hle3' := hle3
       obtain ⟨A3, c3, rfl, -⟩ := hle3
       unfold cellL at hle3' ⊢
       have hg13 := hg2.trans hg3
       (refine sI ?_; try with_reducible exact True.intro)
       refine ⟨grow_L hg13 (.cons _ (List.Sublist.refl _)), ?_⟩
       (refine sI ?_; try with_reducible exact True.intro)
       refine stX_blk [] _ rfl (Nat.le_refl 3) ⟨rfl, rfl⟩ ?_
       (refine sI ?_; try with_reducible exact True.intro)
       refine ⟨grow_L hg13 (.cons _ (List.Sublist.refl _)), ?_⟩
       (refine sI ?_; try with_reducible exact True.intro)
       exact go_l ⟨G3, b3, A3, c3, ⟨hg13, hle3'⟩, eE, eE, eE, rfl⟩
   · intro b3 hb3
     refine ⟨grow_L (fun _ _ h => h) (.cons _ (List.Sublist.refl _)), ?_⟩
     refine (three_ok 10 G1 (by omega) (by omega) _ _).mono ?_
     rintro r h' ⟨G2, rfl, hg2, B, d, rfl, hbe⟩
     rw [hc10] at hbe ⊢
     (refine sI ?_; try with_reducible exact True.intro)
     refine ⟨grow_L hg2 (.cons _ (List.Sublist.refl _)), ?_⟩
     refine (happA G2 B d hg2 hbe _ _).mono ?_
     rintro r h' ⟨G3, rfl, hg3, cs3, rfl, hle3⟩
     have hle3' := hle3
     obtain ⟨A3, c3, rfl, -⟩ := hle3
     unfold cellL at hle3' ⊢
     have hg13 := hg2.trans hg3
     (refine sI ?_; try with_reducible exact True.intro)
     refine ⟨grow_L hg13 (.cons _ (List.Sublist.refl _)), ?_⟩
     (refine sI ?_; try with_reducible exact True.intro)
     refine stX_blk [] _ rfl (Nat.le_refl 3) ⟨rfl, rfl⟩ ?_
     (refine sI ?_; try with_reducible exact True.intro)
     refine ⟨grow_L hg13 (.cons _ (List.Sublist.refl _)), ?_⟩
     (refine sI ?_; try with_reducible exact True.intro)
     exact go_l ⟨G3, b3, A3, c3, ⟨hg13, hle3'⟩, eE, eE, eE, rfl⟩
 rintro e h ⟨G2, b3, A2, c2, ⟨hg2, hleB⟩, e2, e3, e4, rfl⟩
 refine go_keep [2, 3, 4] ?_
 (refine sJ3 @e2 @e3 @e4 ?_; try with_reducible exact True.intro)
 (repeat (with_reducible intro _))
 refine go_gx gx_blk ?_
 rintro h' ⟨G3, rfl, hg3, f3⟩
 have hB3 : LE G3 lgB [.int .i64 256, .int .i64 10, .slice A2 1 c2] := LE.le hg3 hleB
 have htru := Truncate_ok lgB 12 _ G3 hB3 hsmB (by decide) (by decide)
 rw [tru_ex] at htru
 (intros; try refine go_st ?_); refine go_r 29 34 (by decide) ?_; (refine sJ c9r3.eq_1 ?_; try with_reducible exact True.intro)
 refine ⟨_, ⟨_, [.int .i64 256, .int .i64 10, .slice A2 1 c2], rfl, rfl, rfl, fun j u hu => .g (f3 j u hu)⟩, ?_⟩
 (refine sI ?_; try with_reducible exact True.intro)
 refine (htru _ _).mono ?_
 rintro r h' ⟨G4, rfl, hg4, cs4, rfl, hle4⟩
 have hC4 := hle4
 obtain ⟨A4, c4, rfl, -⟩ := hle4
 unfold cellL at hC4 ⊢
 rw [hl1, hl2, hl3] at hC4 ⊢
 have f4 := fun j u hu => cellG_le hg4 (f3 j u hu)
 have hread := Read_ok lgB 11 0 _ G4 (LE.le hg4 hB3) hsmB (by decide) (by decide) (by decide)
 rw [read_ex] at hread
 (refine sI ?_; try with_reducible exact True.intro)
 (intros; try refine go_st ?_); refine go_r 34 39 (by decide) ?_; (refine sJ c9r4.eq_1 ?_; try with_reducible exact True.intro)
 refine ⟨_, ⟨_, [.int .i64 256, .int .i64 10, .slice A2 1 c2], rfl, rfl, rfl, fun j u hu => .g (f4 j u hu)⟩, ?_⟩
 (refine sI ?_; try with_reducible exact True.intro)
 refine (hread _ _).mono ?_
 rintro r h' ⟨G5, rfl, hg5, A5, c5, rfl, hs5⟩
 have f5 := fun j u hu => cellG_le hg5 (f4 j u hu)
 have hg35 := hg4.trans hg5
 have hread2 := Read_ok lgB 14 0 _ G5 (LE.le hg35 hB3) hsmB (by decide) (by decide) (by decide)
 rw [read_ex2] at hread2
 dsimp only at hs5 ⊢
 (refine sI ?_; try with_reducible exact True.intro)
 (intros; try refine go_st ?_); refine go_r 39 44 (by decide) ?_; (refine sJ c9r5.eq_1 ?_; try with_reducible exact True.intro)
 refine ⟨_, ⟨_, [.int .i64 256, .int .i64 10, .slice A2 1 c2], rfl, rfl, rfl, fun j u hu => .g (f5 j u hu)⟩, ?_⟩
 (refine sI ?_; try with_reducible exact True.intro)
 refine (hread2 _ _).mono ?_
 rintro r h' ⟨G6, rfl, hg6, A6, c6, rfl, hs6⟩
 have f6 := fun j u hu => cellG_le hg6 (f5 j u hu)
 have hg36 := hg35.trans hg6
 dsimp only at hs6 ⊢
 (refine sI ?_; try with_reducible exact True.intro)
 (repeat (with_reducible intro _)); try refine go_seq ?_
 have happB : ∀ G' B d, Gle G6 G' → BE G' (thB 12) [.int .i64 12, .int .i64 14, .int .i64 12, .int .i64 0, .int .i64 (-1), .int .i64 0, .int .i64 0, .bool false, .int .i64 0, .slice B 2 d] → FnD Try.prog 21 #[.agg #[.int .i64 256, .int .i64 10, .slice A2 1 c2], .agg #[.int .i64 12, .int .i64 14, .int .i64 12, .int .i64 0, .int .i64 (-1), .int .i64 0, .int .i64 0, .bool false, .int .i64 0, .slice B 2 d]] G' (LgR (noneL, 71)) := fun G' B d hg hbe => by
   have := CAppend_ok lgB (thB 12) _ _ G' (LE.le (hg36.trans hg) hB3) hsmB (by decide) hbe
   rwa [app_ex2] at this
 have hn1 : noneL.limit = 0 := rfl
 have hn2 : noneL.start = 0 := rfl
 have hn3 : noneL.segs.length = 0 := rfl
 refine go_cut (fun e h => ∃ (G7 : Nat → Option Obj) (b11 : Nat) (A8 : Option Addr) (c8 : Nat), Gle G6 G7 ∧ e 2 = .int .i64 0 ∧ e 3 = .pointer (some ⟨b3, 0, none⟩) ∧ e 4 = .int .i64 0 ∧ e 6 = .int .i64 0 ∧ e 7 = .slice A5 1 c5 ∧ e 8 = .int .i64 0 ∧ e 10 = .int .i64 90 ∧ e 12 = .int .i64 71 ∧ h = ⟨G7, [.blk b11 [.int .i64 0, .int .i64 0, .slice A8 0 c8], .reg 5 [.int .i64 256, .int .i64 10, .slice A4 1 c4], .reg 1 [.int .i64 256, .int .i64 10, .slice A1 1 c1]], []⟩) ?_ ?_
 · (intros; try refine go_st ?_); refine go_z _ (List.Sublist.refl _) (by decide) ?_; (refine sJ c9r6.eq_1 ?_; try with_reducible exact True.intro)
   refine ⟨_, ⟨_, [.int .i64 256, .int .i64 10, .slice A2 1 c2], rfl, rfl, rfl, fun j u hu => .g (f6 j u hu)⟩, ?_⟩
   (refine sI ?_; try with_reducible exact True.intro)
   refine ⟨?_, ?_⟩
   · refine (three_ok 12 G6 (by omega) (by omega) _ _).mono ?_
     rintro r h' ⟨G7, rfl, hg7, B, d, rfl, hbe⟩
     rw [hc12] at hbe ⊢
     (refine sI ?_; try with_reducible exact True.intro)
     refine ⟨grow_G hg7, ?_⟩
     refine ⟨?_, ?_⟩
     · refine (happB G7 B d hg7 hbe _ _).mono ?_
       rintro r h' ⟨G8, rfl, hg8, cs8, rfl, hle8⟩
       obtain ⟨A8, c8, rfl, -⟩ := hle8
       unfold cellL
       have hg68 := hg7.trans hg8
       rw [hn1, hn2, hn3]
       (refine sI ?_; try with_reducible exact True.intro)
       refine ⟨grow_G hg68, ?_⟩
       intro b11 hb11
       refine ⟨grow_L hg68 (.cons _ (List.Sublist.refl _)), ?_⟩
       (refine sI ?_; try with_reducible exact True.intro)
       refine stX_blk [] _ rfl (Nat.le_refl 3) ⟨rfl, rfl⟩ ?_
       (refine sI ?_; try with_reducible exact True.intro)
       refine ⟨grow_L hg68 (.cons _ (List.Sublist.refl _)), ?_⟩
       (refine sI ?_; try with_reducible exact True.intro)
       exact go_l ⟨G8, b11, A8, c8, hg68, eE, eE, eE, eE, eE, eE, eE, eE, rfl⟩
     · intro b11 hb11
       refine ⟨grow_L hg7 (.cons _ (List.Sublist.refl _)), ?_⟩
       refine (happB G7 B d hg7 hbe _ _).mono ?_
       rintro r h' ⟨G8, rfl, hg8, cs8, rfl, hle8⟩
       obtain ⟨A8, c8, rfl, -⟩ := hle8
       unfold cellL
       have hg68 := hg7.trans hg8
       rw [hn1, hn2, hn3]
       (refine sI ?_; try with_reducible exact True.intro)
       refine ⟨grow_L hg68 (.cons _ (List.Sublist.refl _)), ?_⟩
       (refine sI ?_; try with_reducible exact True.intro)
       refine stX_blk [] _ rfl (Nat.le_refl 3) ⟨rfl, rfl⟩ ?_
       (refine sI ?_; try with_reducible exact True.intro)
       refine ⟨grow_L hg68 (.cons _ (List.Sublist.refl _)), ?_⟩
       (refine sI ?_; try with_reducible exact True.intro)
       exact go_l ⟨G8, b11, A8, c8, hg68, eE, eE, eE, eE, eE, eE, eE, eE, rfl⟩
   · intro b11 hb11
     refine ⟨grow_L (fun _ _ h => h) (.cons _ (List.Sublist.refl _)), ?_⟩
     refine (three_ok 12 G6 (by omega) (by omega) _ _).mono ?_
     rintro r h' ⟨G7, rfl, hg7, B, d, rfl, hbe⟩
     rw [hc12] at hbe ⊢
     (refine sI ?_; try with_reducible exact True.intro)
     refine ⟨grow_L hg7 (.cons _ (List.Sublist.refl _)), ?_⟩
     refine (happB G7 B d hg7 hbe _ _).mono ?_
     rintro r h' ⟨G8, rfl, hg8, cs8, rfl, hle8⟩
     obtain ⟨A8, c8, rfl, -⟩ := hle8
     unfold cellL
     have hg68 := hg7.trans hg8
     rw [hn1, hn2, hn3]
     (refine sI ?_; try with_reducible exact True.intro)
     refine ⟨grow_L hg68 (.cons _ (List.Sublist.refl _)), ?_⟩
     (refine sI ?_; try with_reducible exact True.intro)
     refine stX_blk [] _ rfl (Nat.le_refl 3) ⟨rfl, rfl⟩ ?_
     (refine sI ?_; try with_reducible exact True.intro)
     refine ⟨grow_L hg68 (.cons _ (List.Sublist.refl _)), ?_⟩
     (refine sI ?_; try with_reducible exact True.intro)
     exact go_l ⟨G8, b11, A8, c8, hg68, eE, eE, eE, eE, eE, eE, eE, eE, rfl⟩
 rintro e h ⟨G7, b11, A8, c8, hg7, e2, e3, e4, e6, e7, e8, e10, e12, rfl⟩
 refine go_keep [2, 3, 4, 6, 7, 8, 10, 12] ?_
 (try simp -implicitDefEqProofs only [kR_e, kQ_e, push_cast, Nat.reduceBEq, Nat.reduceAdd, Nat.reduceSub, Nat.reduceMul, Nat.reduceLT, Nat.reduceLeDiff, Nat.reduceEqDiff, reduceIte, Bool.not_true, Bool.not_false, true_and, and_true, Option.map_some, Option.bind_some, Int.toNat_natCast, e2, e3, e4, e6, e7, e8, e10, e12])
 (repeat (with_reducible intro _))
 refine go_ghost (ghost_sub (L' := [.reg 5 [.int .i64 256, .int .i64 10, .slice A4 1 c4], .reg 1 [.int .i64 256, .int .i64 10, .slice A1 1 c1]]) (.cons _ (List.Sublist.refl _))) ?_
 have f7 := fun j u hu => cellG_le hg7 (f6 j u hu)
 have hg37 := hg36.trans hg7
 have htrm := Trim_ok lgB 13 _ G7 (LE.le hg37 hB3) hsmB (by decide) (by decide)
 rw [trm_ex] at htrm
 (intros; try refine go_st ?_); refine go_r 50 55 (by decide) ?_; (refine sJ c9r7.eq_1 ?_; try with_reducible exact True.intro)
 refine ⟨_, ⟨_, [.int .i64 256, .int .i64 10, .slice A2 1 c2], rfl, rfl, rfl, fun j u hu => .g (f7 j u hu)⟩, ?_⟩
 (refine sI ?_; try with_reducible exact True.intro)
 refine (htrm _ _).mono ?_
 rintro r h' ⟨G8, rfl, hg8, cs8, rfl, hle8⟩
 have hD8 := hle8
 obtain ⟨A9, c9, rfl, -⟩ := hle8
 unfold cellL at hD8 ⊢
 have hd1 : lgD.limit = 256 := rfl
 have hd2 : lgD.start = 13 := rfl
 have hd3 : lgD.segs.length = 1 := rfl
 rw [hd1, hd2, hd3] at hD8 ⊢
 have f8 := fun j u hu => cellG_le hg8 (f7 j u hu)
 have hg38 := hg37.trans hg8
 have hrec := Recover_ok lgB _ G8 (LE.le hg38 hB3) hsmB (by decide)
 rw [recL_ok chk_B] at hrec
 (refine sI ?_; try with_reducible exact True.intro)
 (intros; try refine go_st ?_); refine go_r 55 60 (by decide) ?_; (refine sJ c9r8.eq_1 ?_; try with_reducible exact True.intro)
 refine ⟨_, ⟨_, [.int .i64 256, .int .i64 10, .slice A2 1 c2], rfl, rfl, rfl, fun j u hu => .g (f8 j u hu)⟩, ?_⟩
 (refine sI ?_; try with_reducible exact True.intro)
 refine (hrec _ _).mono ?_
 rintro r h' ⟨G9, rfl, hg9, cs9, rfl, hle9⟩
 have hR9 := hle9
 obtain ⟨A10, c10, rfl, -⟩ := hle9
 unfold cellL at hR9 ⊢
 have hb1 : lgB.limit = 256 := rfl
 have hb2 : lgB.start = 10 := rfl
 have hb3 : lgB.segs.length = 1 := rfl
 rw [hb1, hb2, hb3] at hR9 ⊢
 have f9 := fun j u hu => cellG_le hg9 (f8 j u hu)
 have hg39 := hg38.trans hg9
 have hrep := CReplace_ok lgB 0 [] _ _ G9 (LE.le hg39 hB3) hsmB (by decide) (by decide) slN
 rw [rep_ex] at hrep
 (refine sI ?_; try with_reducible exact True.intro)
 (intros; try refine go_st ?_); refine go_r 60 65 (by decide) ?_; (refine sJ c9r9.eq_1 ?_; try with_reducible exact True.intro)
 refine ⟨_, ⟨_, [.int .i64 256, .int .i64 10, .slice A2 1 c2], rfl, rfl, rfl, fun j u hu => .g (f9 j u hu)⟩, ?_⟩
 (refine sI ?_; try with_reducible exact True.intro)
 refine (hrep _ _).mono ?_
 rintro r h' ⟨G10, rfl, hg10, cs10, rfl, hle10⟩
 obtain ⟨A11, c11, rfl, -⟩ := hle10
 unfold cellL
 rw [hn1, hn2, hn3]
 have f10 := fun j u hu => cellG_le hg10 (f9 j u hu)
 have hg3x := hg39.trans hg10
 (refine sI ?_; try with_reducible exact True.intro)
 have dz1 : decide ((0 : Int) + 1 ≠ 1) = false := by decide
 (intros; try refine go_st ?_); refine go_r 65 87 (by decide) ?_; (refine sJ3 c9r10.eq_1 @dz0 @dz1 ?_; try with_reducible exact True.intro)
 (intros; try refine go_st ?_); refine go_c ?_; (refine sI ?_; try with_reducible exact True.intro)
 (repeat first | (with_reducible intro _) | refine go_skip ?_ | refine go_b ?_)
 have q10 : decide ((10 : Int) = 10) = true := by decide
 have q13 : decide ((13 : Int) = 13) = true := by decide
 have q0 : decide ((0 : Int) = 0) = true := by decide
 have q1 : decide ((0 : Int) + 1 = 1) = true := by decide
 have q1' : decide ((1 : Int) = 1) = true := by decide
 have q90 : decide ((90 : Int) = 90) = true := by decide
 have q71 : decide ((71 : Int) = 71) = true := by decide
 have hA10 : LE G10 lgA [.int .i64 256, .int .i64 10, .slice A1 1 c1] := LE.le (hg2.trans (hg3.trans hg3x)) hle1'
 have hB10 := LE.le hg3x hB3
 have hC10 := LE.le (hg5.trans (hg6.trans (hg7.trans (hg8.trans (hg9.trans hg10))))) hC4
 have hEA : EndL lgA = 10 := by rw [EndL, if_pos chk_A]; rfl
 have hEB : EndL lgB = 13 := by rw [EndL, if_pos chk_B, end_B]
 have x1 := CEnd_ok lgA _ G10 hA10 hsmA (by decide)
 have x2 := CEnd_ok lgB _ G10 hB10 hsmB (by decide)
 have x3 := CEnd_ok lgA _ G10 hC10 hsmA (by decide)
 rw [hEA] at x1 x3
 rw [hEB] at x2
 have x4 := All_ok lgA _ G10 hC10 hsmA
 rw [AllL, if_pos chk_A, all_A] at x4
 (intros; try refine go_st ?_); refine go_r 88 162 (by decide) ?_; (refine sJ c9r12.eq_1 ?_; try with_reducible exact True.intro)
 refine (x1 _ _).mono ?_; rintro _ _ ⟨rfl, rfl⟩; (refine sJ @q10 ?_; try with_reducible exact True.intro)
 refine ⟨_, ⟨_, [.int .i64 256, .int .i64 10, .slice A2 1 c2], rfl, rfl, rfl, fun j u hu => .g (f10 j u hu)⟩, ?_⟩
 (refine sI ?_; try with_reducible exact True.intro)
 refine (x2 _ _).mono ?_; rintro _ _ ⟨rfl, rfl⟩; (refine sJ @q13 ?_; try with_reducible exact True.intro)
 refine (x3 _ _).mono ?_; rintro _ _ ⟨rfl, rfl⟩; (refine sJ @q10 ?_; try with_reducible exact True.intro)
 refine (x4 _ _).mono ?_
 rintro r h' ⟨G11, rfl, hg11, A12, c12, rfl, -⟩
 have f11 := fun j u hu => cellG_le hg11 (f10 j u hu)
 have hn0 : (([] : List Batch).length : Int) = 0 := rfl
 (refine sJ2 @hn0 @q0 ?_; try with_reducible exact True.intro)
 obtain ⟨A0, c0, he0, -, -, hs5A⟩ := hs5.le (hg6.trans (hg7.trans (hg8.trans (hg9.trans (hg10.trans hg11))))) (E' := BE G5) fun _ _ h => h
 cases he0
 refine hs5A.x_lf (k := 0) (u := .int .i64 10) rfl rfl rfl (fun cs h => by obtain ⟨_, _, rfl, -⟩ := h; rfl) fun a ha => ?_
 (refine sJ @q10 ?_; try with_reducible exact True.intro)
 (refine sJ @q90 ?_; try with_reducible exact True.intro)
 (refine sJ @q71 ?_; try with_reducible exact True.intro)
 refine ⟨_, ⟨_, [.int .i64 256, .int .i64 10, .slice A2 1 c2], rfl, rfl, rfl, fun j u hu => .g (f11 j u hu)⟩, ?_⟩
 (refine sI ?_; try with_reducible exact True.intro)
 have x5 := All_ok lgB _ G11 (LE.le hg11 hB10) hsmB
 rw [AllL, if_pos chk_B, all_B] at x5
 refine (x5 _ _).mono ?_
 rintro r h' ⟨G12, rfl, hg12, A13, c13, rfl, -⟩
 have f12 := fun j u hu => cellG_le hg12 (f11 j u hu)
 have hg1012 := hg11.trans hg12
 have hD12 := LE.le (hg9.trans (hg10.trans hg1012)) hD8
 have x6 := All_ok lgD _ G12 hD12 (sm_of chk_D)
 rw [AllL, if_pos chk_D, all_D] at x6
 have hone : (([thB 10] : List Batch).length : Int) = 1 := rfl
 (refine sJ3 @hone @q1' @q1 ?_; try with_reducible exact True.intro)
 refine (x6 _ _).mono ?_
 rintro r h' ⟨G13, rfl, hg13, A14, c14, rfl, -⟩
 have f13 := fun j u hu => cellG_le hg13 (f12 j u hu)
 have hg1013 := hg1012.trans hg13
 (refine sJ2 @hn0 @q0 ?_; try with_reducible exact True.intro)
 (refine sJ @q13 ?_; try with_reducible exact True.intro)
 refine ⟨_, ⟨_, [.int .i64 256, .int .i64 10, .slice A2 1 c2], rfl, rfl, rfl, fun j u hu => .g (f13 j u hu)⟩, ?_⟩
 (refine sI ?_; try with_reducible exact True.intro)
 have x7 := LSame_ok lgB lgB _ _ G13 (LE.le (hg10.trans hg1013) hR9) (LE.le hg1013 hB10)
 rw [decide_eq_true rfl] at x7
 refine (x7 _ _).mono ?_; rintro _ _ ⟨rfl, rfl⟩; (refine sI ?_; try with_reducible exact True.intro)
 (refine sJ @q0 ?_; try with_reducible exact True.intro)
 (refine sJ @q90 ?_; try with_reducible exact True.intro)
 refine ⟨_, ⟨_, [.int .i64 256, .int .i64 10, .slice A2 1 c2], rfl, rfl, rfl, fun j u hu => .g (f13 j u hu)⟩, ?_⟩
 (refine sI ?_; try with_reducible exact True.intro)
 have x8 := ChkL_ok lgB _ G13 (LE.le hg1013 hB10) hsmB
 rw [chk_B] at x8
 refine (x8 _ _).mono ?_; rintro _ _ ⟨rfl, rfl⟩; (refine sJ @q0 ?_; try with_reducible exact True.intro)
 have x9 := ChkL_ok noneL [.int .i64 0, .int .i64 0, .slice none 0 0] G13 ⟨none, 0, rfl, slN, i64_0, i64_0⟩ (fun s hs => by cases hs)
 rw [chk_none] at x9
 refine (x9 _ _).mono ?_; rintro _ _ ⟨rfl, rfl⟩; (refine sJ @q1' ?_; try with_reducible exact True.intro)
 (intros; try refine go_st ?_)
 refine go_ret (retQ_v rfl ?_); simp only [push_cast, Nat.reduceBEq]
theorem F12 : Fun Try.prog 12 37 v12 c12 o12 := Fun.mk' Try.func12 Try.ntmps12 (by kernel_rfl) (by kernel_rfl) s12 q12
def BhR (q : Lg × List Batch) (G : Nat → Option Obj) (r : Value) : Prop := ∃ cs A c, r = .tuple #[.agg cs.toArray, .slice A q.2.length c] ∧ LE G q.1 cs ∧ SlV G (BE G) 10 (.slice A q.2.length c) q.2
set_option maxHeartbeats 1000000 in
theorem behind_ok (limit start : Int) (bs : List Batch) (cs : List Value) (v : Value) (G : Nat → Option Obj) (h0 : mayO limit start = true) (hl : LE G ⟨limit, start, [⟨start, []⟩]⟩ cs) (hbs : SlV G (BE G) 10 v bs) (hn : bs.length ≤ 100) :
   FnD Try.prog 12 #[.agg cs.toArray, v] G (BhR (behL ⟨limit, start, [⟨start, []⟩]⟩ bs)) := by
 have hinv := fun k hk => beh_ok h0 bs k hk _ rfl
 have hi : I64 limit := (i64_lim h0).1
 have hj : I64 start := (i64_lim h0).2
 obtain ⟨A, c, rfl, hc, hm, hA⟩ := hbs
 obtain ⟨A1, c1, rfl, hsl, -⟩ := hl
 refine F12.fnD (by simp) (go_of ?_)
 unfold c12 cellL
 dsimp only
 have hb0 : behL ⟨limit, start, [⟨start, []⟩]⟩ (bs.take 0) = (⟨limit, start, [⟨start, []⟩]⟩, []) := rfl
 have hsn := fun k b h => @behL_snoc ⟨limit, start, [⟨start, []⟩]⟩ bs k b h
 generalize hL0 : (⟨limit, start, [⟨start, []⟩]⟩ : Lg) = l0 at *
 have e1 : ([⟨start, []⟩] : List Sg) = l0.segs := by rw [← hL0]
 rw [e1]
 (intros; try refine go_st ?_); refine go_r 0 0 (by decide) ?_; (refine sJ c12r0.eq_1 ?_; try with_reducible exact True.intro)
 (intros; try refine go_st ?_); refine go_r 0 0 (by decide) ?_; (refine sJ c12r1.eq_1 ?_; try with_reducible exact True.intro)
 (intros; try refine go_st ?_); refine go_r 0 0 (by decide) ?_; (refine sJ c12r2.eq_1 ?_; try with_reducible exact True.intro)
 (repeat (with_reducible intro _))
 refine go_ghost (ghost_nil none 35 10) ?_
 refine go_cut (fun e h => ∃ (G' : Nat → Option Obj) (A' : Option Addr) (c' : Nat) (u : Value) (zc : List Value), (Gle G G' ∧ SlV G' (SE G') 2 (.slice A' (behL l0 bs).1.segs.length c') (behL l0 bs).1.segs ∧ Cells (BE G) 10 (behL l0 bs).2 zc) ∧ e 6 = u ∧ h = ⟨G', [.row u 35 10 (behL l0 bs).2.length zc, .reg 4 [.int .i64 0, .int .i64 0, .slice none 0 0], .reg 2 [.int .i64 limit, .int .i64 start, .slice A' (behL l0 bs).1.segs.length c']], []⟩) ?_ ?_
 · (intros; try refine go_st ?_)
   refine go_loop (fun e h => ∃ (k : Nat) (G' : Nat → Option Obj) (A' : Option Addr) (c' : Nat) (u : Value) (zc : List Value), (k ≤ bs.length ∧ Gle G G' ∧ SlV G' (SE G') 2 (.slice A' (behL l0 (bs.take k)).1.segs.length c') (behL l0 (bs.take k)).1.segs ∧ Cells (BE G) 10 (behL l0 (bs.take k)).2 zc) ∧ e 7 = .int .i64 k ∧ e 1 = .slice A bs.length c ∧ e 6 = u ∧ h = ⟨G', [.row u 35 10 (behL l0 (bs.take k)).2.length zc, .reg 4 [.int .i64 0, .int .i64 0, .slice none 0 0], .reg 2 [.int .i64 limit, .int .i64 start, .slice A' (behL l0 (bs.take k)).1.segs.length c']], []⟩) (fun e h => bs.length - iv (e 7)) ?_ ?_
   · exact ⟨0, G, A1, c1, .slice none 0 0, [], ⟨Nat.zero_le _, .refl _, by rw [hb0]; exact hsl, by rw [hb0]; exact .nil⟩, eE, eE, eE, by rw [hb0]; rfl⟩
   rintro e h ⟨k, G', A', c', u, zc, ⟨hk, hg', hs', hzc⟩, e7, e11, e6, rfl⟩
   obtain ⟨i1, i2, i3, i4, i5, i6, i7, i8⟩ := hinv k hk
   refine go_keep [1, 6, 7] ?_
   (refine sJ3 @e7 @e11 @e6 ?_; try with_reducible exact True.intro)
   (intros; try refine go_st ?_); refine go_r 10 13 (by decide) ?_; (refine sJ c12r3.eq_1 ?_; try with_reducible exact True.intro)
   (intros; try refine go_st ?_); refine go_c ?_; (refine sI ?_; try with_reducible exact True.intro)
   refine gb (fun ht => ?_) (fun ht => ?_)
   · have ht : k < bs.length := by have := of_decide_eq_true ht; omega
     have hw := inc_i k c (by omega) hm
     obtain ⟨x, hx⟩ : ∃ x, bs[k]? = some x := ⟨bs[k], List.getElem?_eq_getElem (by omega)⟩
     have hstep := hsn k x hx
     have hAk := hA.le hg' (E' := BE G) fun _ _ h => h
     generalize behL l0 (bs.take k) = q at *
     obtain ⟨lg, tk⟩ := q
     dsimp only at hs' hzc i1 i2 i3 i4 i5 i6 i7 i8 hstep ⊢
     subst i2 i3
     unfold behF at hstep
     dsimp only at hstep
     have hle : LE G' lg [.int .i64 lg.limit, .int .i64 lg.start, .slice A' lg.segs.length c'] := ⟨A', c', rfl, hs', hi, hj⟩
     have hsm := sm_of i1
     (repeat first | (with_reducible intro _) | refine go_skip ?_ | refine go_b ?_)
     (repeat (with_reducible intro _)); try refine go_seq ?_
     refine go_blk ?_
     (repeat (with_reducible intro _)); try refine go_seq ?_
     refine go_cut (fun e h => ∃ (G2 : Nat → Option Obj) (b8 : Nat) (A8 : Option Addr) (c8 : Nat), (Gle G' G2 ∧ LE G2 (appL lg x).1 [.int .i64 (appL lg x).1.limit, .int .i64 (appL lg x).1.start, .slice A8 (appL lg x).1.segs.length c8]) ∧ e 7 = .int .i64 k ∧ e 1 = .slice A bs.length c ∧ e 6 = u ∧ e 8 = .pointer (some ⟨b8, 0, none⟩) ∧ e 9 = .int .i64 (appL lg x).2 ∧ h = ⟨G2, .blk b8 [.int .i64 (appL lg x).1.limit, .int .i64 (appL lg x).1.start, .slice A8 (appL lg x).1.segs.length c8] :: [.row u 35 10 tk.length zc, .reg 4 [.int .i64 0, .int .i64 0, .slice none 0 0], .reg 2 [.int .i64 lg.limit, .int .i64 lg.start, .slice A' lg.segs.length c']], []⟩) ?_ ?_
     · (intros; try refine go_st ?_); refine go_z _ (List.Sublist.refl _) (by decide) ?_; (refine sJ c12r4.eq_1 ?_; try with_reducible exact True.intro)
       refine hAk.y_ld hx rfl rfl ?_
       rintro a1 ha1 cs hbe
       have hbe1 := BE.le hg' hbe
       have happ := CAppend_ok lg x _ cs G' hle hsm (by omega) hbe1
       obtain ⟨B, d, rfl, -⟩ := hbe
       unfold cellH at happ ⊢
       (refine sI ?_; try with_reducible exact True.intro)
       refine ⟨?_, ?_⟩
       · refine (happ _ _).mono ?_
         rintro r h' ⟨G2, rfl, hg2, cs8, rfl, hle8⟩
         have hs8 := hle8
         obtain ⟨A8, c8, rfl, -⟩ := hle8
         unfold cellL at hs8 ⊢
         (refine sI ?_; try with_reducible exact True.intro)
         refine ⟨grow_G hg2, ?_⟩
         intro b8 hb8
         refine ⟨grow_L hg2 (.cons _ (List.Sublist.refl _)), ?_⟩
         (refine sI ?_; try with_reducible exact True.intro)
         refine stX_blk [] _ rfl (Nat.le_refl 3) ⟨rfl, rfl⟩ ?_
         (refine sI ?_; try with_reducible exact True.intro)
         refine ⟨grow_L hg2 (.cons _ (List.Sublist.refl _)), ?_⟩
         (refine sI ?_; try with_reducible exact True.intro)
         exact go_l ⟨G2, b8, A8, c8, ⟨hg2, hs8⟩, eE, eE, eE, eE, eE, rfl⟩
       · intro b8 hb8
         refine ⟨grow_L (fun _ _ h => h) (.cons _ (List.Sublist.refl _)), ?_⟩
         refine (happ _ _).mono ?_
         rintro r h' ⟨G2, rfl, hg2, cs8, rfl, hle8⟩
         have hs8 := hle8
         obtain ⟨A8, c8, rfl, -⟩ := hle8
         unfold cellL at hs8 ⊢
         (refine sI ?_; try with_reducible exact True.intro)
         refine ⟨grow_L hg2 (.cons _ (List.Sublist.refl _)), ?_⟩
         (refine sI ?_; try with_reducible exact True.intro)
         refine stX_blk [] _ rfl (Nat.le_refl 3) ⟨rfl, rfl⟩ ?_
         (refine sI ?_; try with_reducible exact True.intro)
         refine ⟨grow_L hg2 (.cons _ (List.Sublist.refl _)), ?_⟩
         (refine sI ?_; try with_reducible exact True.intro)
         exact go_l ⟨G2, b8, A8, c8, ⟨hg2, hs8⟩, eE, eE, eE, eE, eE, rfl⟩
     rintro e h ⟨G2, b8, A8, c8, ⟨hg2, hle8⟩, e7, e11, e6, e8, e9, rfl⟩
     refine go_keep [1, 6, 7, 8, 9] ?_
     (refine sJ5 @e7 @e11 @e6 @e8 @e9 ?_; try with_reducible exact True.intro)
     have hok := @appL_ok lg x
     generalize appL lg x = q at *
     obtain ⟨l2, er⟩ := q
     dsimp only at hle8 hok hstep ⊢
     have hg02 := hg'.trans hg2
     obtain ⟨Ax, cx, hcx, hs8, hi8, hj8⟩ := hle8
     have hcx : Ax = A8 ∧ cx = c8 := by simp only [cellL, List.cons.injEq, Value.slice.injEq] at hcx; exact ⟨hcx.2.2.1.1.symm, hcx.2.2.1.2.2.symm⟩
     obtain ⟨rfl, rfl⟩ := hcx
     (repeat (with_reducible intro _))
     refine go_gx gx_blk ?_
     rintro h' ⟨G3, rfl, hg3, f8⟩
     (intros; try refine go_st ?_); refine go_r 25 26 (by decide) ?_; (refine sJ c12r5.eq_1 ?_; try with_reducible exact True.intro)
     (intros; try refine go_st ?_); refine go_c ?_; (refine sI ?_; try with_reducible exact True.intro)
     refine gb (fun k1 => ?_) (fun k1 => ?_)
     · have k1 : er = 0 := of_decide_eq_true k1
       obtain ⟨-, ⟨o1, o2⟩, -⟩ := hok k1
       rw [if_pos k1] at hstep
       rw [o1, o2] at f8
       (intros; try refine go_st ?_); refine go_r 27 28 (by decide) ?_; (refine sJ c12r6.eq_1 ?_; try with_reducible exact True.intro)
       refine ⟨_, ⟨_, [.int .i64 lg.limit, .int .i64 lg.start, .slice Ax l2.segs.length cx], rfl, rfl, rfl, fun j u hu => .g (f8 j u hu)⟩, ?_⟩
       (refine sI ?_; try with_reducible exact True.intro)
       have hA3 := hA.le (hg02.trans hg3) (E' := BE G) fun _ _ h => h
       (intros; try refine go_st ?_); refine go_r 28 35 (by decide) ?_; (refine sJ c12r7.eq_1 ?_; try with_reducible exact True.intro)
       refine hA3.x_ld hx rfl rfl ?_
       rintro a2 ha2 cs hbe
       have hbe0 := hbe
       obtain ⟨B, d, rfl, -⟩ := hbe
       unfold cellH at hbe0 ⊢
       (refine sI ?_; try with_reducible exact True.intro)
       intro bk hbk
       refine app1 (L1 := []) (L2 := [_, _]) (E := BE G) (x := x) rfl hbe0 rfl (by simp [Value.oneCell']) hzc (by omega) (by omega) fun A9 c9 zc' hzc' => ?_
       (refine sI ?_; try with_reducible exact True.intro)
       (repeat (with_reducible intro _))
       refine go_ghost (ghost_sub (.cons _ (List.Sublist.refl _))) ?_
       (intros; try refine go_st ?_); refine go_r 14 16 (by decide) ?_; (refine sJ2 c12r8.eq_1 @hw ?_; try with_reducible exact True.intro)
       (intros; try refine go_st ?_)
       have q1 : (behL l0 (bs.take (k + 1))).1 = l2 := by rw [hstep]
       have q2 : (behL l0 (bs.take (k + 1))).2 = tk ++ [x] := by rw [hstep]
       refine go_l ⟨⟨k + 1, G3, Ax, cx, .slice A9 (tk ++ [x]).length c9, zc', ⟨by omega, hg02.trans hg3, by rw [q1]; exact SlSE.le hg3 hs8, by rw [q2]; exact hzc'⟩, eE, eE, eE, by rw [q1, q2]⟩, ?_⟩
       (refine sI ?_; try with_reducible exact True.intro)
       omega
     · have k1 : ¬ er = 0 := of_decide_eq_false k1
       rw [if_neg k1] at hstep
       (repeat first | (with_reducible intro _) | refine go_skip ?_ | refine go_b ?_)
       (intros; try refine go_st ?_); refine go_r 14 16 (by decide) ?_; (refine sJ2 c12r8.eq_1 @hw ?_; try with_reducible exact True.intro)
       (intros; try refine go_st ?_)
       have q1 : (behL l0 (bs.take (k + 1))).1 = lg := by rw [hstep]
       have q2 : (behL l0 (bs.take (k + 1))).2 = tk := by rw [hstep]
       refine go_l ⟨⟨k + 1, G3, A', c', u, zc, ⟨by omega, hg02.trans hg3, by rw [q1]; exact SlSE.le (hg2.trans hg3) hs', by rw [q2]; exact hzc⟩, eE, eE, eE, by rw [q1, q2]⟩, ?_⟩
       (refine sI ?_; try with_reducible exact True.intro)
       omega
   · have ht : k = bs.length := by have := of_decide_eq_false ht; omega
     subst ht
     rw [List.take_length] at hs' hzc ⊢
     refine go_exit ?_
     (refine sI ?_; try with_reducible exact True.intro)
     (repeat first | (with_reducible intro _) | refine go_skip ?_ | refine go_b ?_)
     exact go_l ⟨G', A', c', u, zc, ⟨hg', hs', hzc⟩, eE, rfl⟩
 rintro e h ⟨G1, A', c', u, zc, ⟨hg1, hs', hzc⟩, e6, rfl⟩
 refine go_keep [6] ?_
 (refine sJ @e6 ?_; try with_reducible exact True.intro)
 (repeat (with_reducible intro _))
 have hfin := hinv bs.length (Nat.le_refl _)
 rw [List.take_length] at hfin
 obtain ⟨i1, i2, i3, i4, i5, i6, i7, i8⟩ := hfin
 refine go_gx (gx_slv_at [] _ (by decide) hzc) ?_
 rintro h' ⟨G2, rfl, hg2, hv2⟩
 obtain ⟨A9, c9, rfl, hc9⟩ := id hv2
 (intros; try refine go_st ?_); refine go_r 35 37 (by decide) ?_; (refine sJ c12r9.eq_1 ?_; try with_reducible exact True.intro)
 (intros; try refine go_st ?_)
 refine go_ret (retQ_v rfl ?_); simp only [push_cast, Nat.reduceBEq]
 exact ⟨_, A9, c9, rfl, ⟨A', c', by simp only [cellL, i2, i3], SlSE.le hg2 hs', by rw [i2]; exact hi, by rw [i3]; exact hj⟩, hv2.le (.refl _) fun _ _ h => BE.le (hg1.trans hg2) h⟩
theorem F3 : Fun Try.prog 3 107 v3 c3 o3 := Fun.mk' Try.func3 Try.ntmps3 (by kernel_rfl) (by kernel_rfl) s3 q3
theorem nextB_snoc {T : List Batch} {x : Batch} (b : Int) (hx : T[T.length - 1]? = some x) : nextB b T = x.last + 1 := nextB_last0 b hx
set_option maxHeartbeats 2000000 in
theorem ChainBack_ok (limit start : Int) (bs : List Batch) (off : Int) (v : Value) (G : Nat → Option Obj) (hli : I64 limit) (hst : I64 start) (hbs : SlV G (BE G) 10 v bs) (ho : I64 off) : FnS Try.prog 3 #[.int .i64 limit, .int .i64 start, v, .int .i64 off] G (.bool true) := by
 have hlive := CLive_ok G
 have hfa := FewAll_ok bs 40 v G hbs
 have hbs0 := hbs
 obtain ⟨B, d, rfl, -⟩ := hbs
 refine F3.fnS (by simp) (go_of ?_)
 unfold c3
 (intros; try refine go_st ?_); refine go_r 0 0 (by decide) ?_; (refine sJ c3r0.eq_1 ?_; try with_reducible exact True.intro)
 (intros; try refine go_st ?_); refine go_r 17 18 (by decide) ?_; (refine sJ c3r1.eq_1 ?_; try with_reducible exact True.intro)
 refine (hlive _ _).mono ?_; rintro _ _ ⟨rfl, rfl⟩; (refine sI ?_; try with_reducible exact True.intro)
 (intros; try refine go_st ?_); refine go_r 18 20 (by decide) ?_; (refine sJ c3r2.eq_1 ?_; try with_reducible exact True.intro)
 refine (hfa _ _).mono ?_
 rintro r h' ⟨⟨b1, rfl, hb1⟩, rfl⟩
 (refine sI ?_; try with_reducible exact True.intro)
 (intros; try refine go_st ?_); refine go_c ?_; (refine sI ?_; try with_reducible exact True.intro)
 refine gb (fun k1 => ?_) (fun k1 => ?_)
 · (intros; try refine go_st ?_); refine go_r 21 22 (by decide) ?_; (refine sJ c3r3.eq_1 ?_; try with_reducible exact True.intro)
   (intros; try refine go_st ?_)
   refine go_ret (retQ_v rfl ?_); simp only [push_cast, Nat.reduceBEq]
 obtain ⟨n1, -⟩ := hb1 (by simpa using k1)
 have hnew := CNew_ok limit start G
 have hnl := @new_log limit start
 (repeat first | (with_reducible intro _) | refine go_skip ?_ | refine go_b ?_)
 (intros; try refine go_st ?_); refine go_r 22 28 (by decide) ?_; (refine sJ c3r4.eq_1 ?_; try with_reducible exact True.intro)
 refine (hnew _ _).mono ?_
 rintro r h' ⟨G1, rfl, hg1, cs1, rfl, hle1⟩
 by_cases hm : mayO limit start = true
 rotate_left
 · have hq : newL limit start = (noneL, 1) := by rw [newL, if_neg hm]
   rw [hq] at hle1 ⊢
   obtain ⟨A1, c1, rfl, -⟩ := hle1
   unfold cellL
   have hn3 : noneL.segs.length = 0 := rfl
   have q1 : decide ((1 : Int) ≠ 0) = true := by decide
   have q0 : decide ((0 : Int) = 0) = true := by decide
   dsimp only
   rw [hn3]
   (refine sI ?_; try with_reducible exact True.intro)
   (intros; try refine go_st ?_); refine go_r 28 29 (by decide) ?_; (refine sJ2 c3r5.eq_1 @q1 ?_; try with_reducible exact True.intro)
   (intros; try refine go_st ?_); refine go_c ?_; (refine sI ?_; try with_reducible exact True.intro)
   (intros; try refine go_st ?_); refine go_r 30 37 (by decide) ?_; (refine sJ2 c3r6.eq_1 @q0 ?_; try with_reducible exact True.intro)
   (intros; try refine go_st ?_)
   refine go_ret (retQ_v rfl ?_); simp only [push_cast, Nat.reduceBEq]
 have hq : newL limit start = (⟨limit, start, [⟨start, []⟩]⟩, 0) := by rw [newL, if_pos hm]
 rw [hq] at hle1 ⊢
 dsimp only at hle1 ⊢
 have hbh := behind_ok limit start bs cs1 _ G1 hm hle1 (hbs0.le hg1 fun _ _ h => BE.le hg1 h) (by omega)
 obtain ⟨i1, i2, i3, i4, i5, i6, i7, i8⟩ := beh_ok hm bs bs.length (Nat.le_refl _) _ rfl
 rw [List.take_length] at i1 i2 i3 i4 i5 i6 i7 i8
 obtain ⟨A1, c1, rfl, -⟩ := hle1
 generalize hl0 : (⟨limit, start, [⟨start, []⟩]⟩ : Lg) = l0 at *
 have h1 : l0.limit = limit := by rw [← hl0]
 have h2 : l0.start = start := by rw [← hl0]
 unfold cellL at hbh ⊢
 generalize behL l0 bs = q at *
 obtain ⟨x, T⟩ := q
 dsimp only at i1 i2 i3 i4 i5 i6 i7 i8
 (refine sI ?_; try with_reducible exact True.intro)
 (intros; try refine go_st ?_); refine go_r 28 29 (by decide) ?_; (refine sJ2 c3r5.eq_1 @dz0 ?_; try with_reducible exact True.intro)
 (intros; try refine go_st ?_); refine go_c ?_; (refine sI ?_; try with_reducible exact True.intro)
 (repeat first | (with_reducible intro _) | refine go_skip ?_ | refine go_b ?_)
 (intros; try refine go_st ?_); refine go_r 37 43 (by decide) ?_; (refine sJ c3r7.eq_1 ?_; try with_reducible exact True.intro)
 refine (hbh _ _).mono ?_
 rintro r h' ⟨G2, rfl, hg2, cs2, A2, c2, rfl, hle2, hv2⟩
 have hx2 := hle2
 obtain ⟨A3, c3, rfl, -⟩ := hle2
 unfold cellL at hx2 ⊢
 dsimp only at hx2 hv2 ⊢
 obtain ⟨_, _, hx9, hc2, hm2, hA2⟩ := id hv2
 cases hx9
 have hsm := sm_of i1
 have hnx := (chkL_0 i1).2.2.2
 have hTn : T.length ≤ 100 := by omega
 (refine sI ?_; try with_reducible exact True.intro)
 (intros; try refine go_st ?_); refine go_r 43 44 (by decide) ?_; (refine sJ c3r8.eq_1 ?_; try with_reducible exact True.intro)
 (repeat (with_reducible intro _))
 (repeat (with_reducible intro _)); try refine go_seq ?_
 refine go_cut (fun e h => e 1 = .int .i64 start ∧ e 3 = .int .i64 off ∧ e 9 = .bool true ∧ e 13 = .slice A2 T.length c2 ∧ e 14 = .int .i64 (endL x) ∧ h = ⟨G2, [.reg 12 [.int .i64 x.limit, .int .i64 x.start, .slice A3 x.segs.length c3], .reg 10 [.int .i64 l0.limit, .int .i64 l0.start, .slice A1 l0.segs.length c1]], []⟩) ?_ ?_
 · (intros; try refine go_st ?_); refine go_r 44 46 (by decide) ?_; (refine sJ c3r9.eq_1 ?_; try with_reducible exact True.intro)
   (intros; try refine go_st ?_); refine go_c ?_; (refine sI ?_; try with_reducible exact True.intro)
   refine gb (fun k2 => ?_) (fun k2 => ?_)
   · have k2 : 0 < T.length := by have := of_decide_eq_true k2; omega
     obtain ⟨z, hz⟩ : ∃ z, T[T.length - 1]? = some z := ⟨T[T.length - 1]'(by omega), List.getElem?_eq_getElem _⟩
     have hen : endL x = z.last + 1 := by rw [i5, nextB_snoc start hz]
     have hlw := last_i (i6 z (List.mem_of_getElem? hz))
     have hw1 : IntKind.i64.wrap ((T.length : Int) - 1) = ((T.length - 1 : Nat) : Int) := by rw [w64_id] <;> omega
     generalize T.length - 1 = M at *
     (intros; try refine go_st ?_); refine go_r 47 55 (by decide) ?_; (refine sJ2 c3r10.eq_1 @hw1 ?_; try with_reducible exact True.intro)
     refine hA2.x_lf (k := M) (u := .int .i64 z.last) hz rfl rfl (fun cs h => by obtain ⟨_, _, rfl, -⟩ := h; rfl) fun a ha => ?_
     (refine sJ @hlw ?_; try with_reducible exact True.intro)
     (intros; try refine go_st ?_)
     rw [hen]
     exact go_l ⟨eE, eE, eE, eE, eE, rfl⟩
   · have k2 : T = [] := List.eq_nil_of_length_eq_zero (by have := of_decide_eq_false k2; omega)
     have hen : endL x = start := by rw [i5, k2]; rfl
     rw [hen]
     (repeat first | (with_reducible intro _) | refine go_skip ?_ | refine go_b ?_)
     exact go_l ⟨eE, eE, eE, eE, eE, rfl⟩
 rintro e h ⟨e1, e3, e9, e13, e14, rfl⟩
 refine go_keep [1, 3, 9, 13, 14] ?_
 (refine sJ5 @e1 @e3 @e9 @e13 @e14 ?_; try with_reducible exact True.intro)
 have y1 := ChkL_ok x _ G2 hx2 hsm
 rw [i1] at y1
 have y2 := CEnd_ok x _ G2 hx2 hsm (by omega)
 rw [EndL, if_pos i1] at y2
 have y3 := All_ok x _ G2 hx2 hsm
 rw [AllL, if_pos i1, i4] at y3
 have de : decide (endL x ≠ endL x) = false := decide_eq_false (by simp)
 (intros; try refine go_st ?_); refine go_r 55 70 (by decide) ?_; (refine sJ c3r11.eq_1 ?_; try with_reducible exact True.intro)
 refine (y1 _ _).mono ?_; rintro _ _ ⟨rfl, rfl⟩; (refine sJ @dz0 ?_; try with_reducible exact True.intro)
 refine (y2 _ _).mono ?_; rintro _ _ ⟨rfl, rfl⟩; (refine sJ @de ?_; try with_reducible exact True.intro)
 refine (y3 _ _).mono ?_
 rintro r h' ⟨G3, rfl, hg3, hv3⟩
 have y4 := SameAll_ok _ _ _ _ G3 hv3 (hv2.le hg3 fun _ _ h => BE.le hg3 h)
 rw [decide_eq_true rfl] at y4
 obtain ⟨A4, c4, rfl, -⟩ := id hv3
 (refine sI ?_; try with_reducible exact True.intro)
 refine (y4 _ _).mono ?_; rintro _ _ ⟨rfl, rfl⟩; (refine sI ?_; try with_reducible exact True.intro)
 (intros; try refine go_st ?_); refine go_c ?_; (refine sI ?_; try with_reducible exact True.intro)
 (repeat first | (with_reducible intro _) | refine go_skip ?_ | refine go_b ?_)
 have hread := Read_ok x off 1099511627776 _ G3 (LE.le hg3 hx2) hsm (by omega) ho (by decide)
 have hrd : readL x off 1099511627776 = if betw x off = true then (reach off T, 0) else ([], 90) := by
   rw [readL, if_pos i1, if_neg (by decide)]
   by_cases hb : betw x off = true
   · rw [if_pos hb, if_pos hb, read_all i1 (by decide)]
     have hso : x.start ≤ off := by
       rw [betw, Bool.and_eq_true] at hb
       exact of_decide_eq_true hb.1
     rw [← i4, allL, reach_reach hso]
   · rw [if_neg hb, if_neg hb]
 rw [hrd] at hread
 have hbw : betw x off = (decide (start ≤ off) && decide (off ≤ endL x)) := by rw [betw, i3]
 (intros; try refine go_st ?_); refine go_r 71 77 (by decide) ?_; (refine sJ c3r13.eq_1 ?_; try with_reducible exact True.intro)
 refine (hread _ _).mono ?_
 rintro r h' ⟨G4, rfl, hg4, A5, c5, rfl, hs5⟩
 (refine sI ?_; try with_reducible exact True.intro)
 have q90 : decide ((90 : Int) = 90) = true := by decide
 have q0 : decide ((0 : Int) = 0) = true := by decide
 have hn0 : (([] : List Batch).length : Int) = 0 := rfl
 (intros; try refine go_st ?_); refine go_r 77 84 (by decide) ?_; (refine sJ c3r14.eq_1 ?_; try with_reducible exact True.intro)
 refine gd (fun k3 => ?_) (fun k3 => ?_)
 · have k3 := of_decide_eq_true k3
   have hb : ¬ betw x off = true := by rw [hbw, decide_eq_false (show ¬ start ≤ off by omega)]; simp
   rw [if_neg hb] at hs5 ⊢
   (refine sI ?_; try with_reducible exact True.intro)
   (intros; try refine go_st ?_); refine go_c ?_; (refine sI ?_; try with_reducible exact True.intro)
   (intros; try refine go_st ?_); refine go_r 85 95 (by decide) ?_; (refine sJ2 c3r15.eq_1 @q90 ?_; try with_reducible exact True.intro)
   (refine sJ2 @hn0 @q0 ?_; try with_reducible exact True.intro)
   (intros; try refine go_st ?_)
   refine go_ret (retQ_v rfl ?_); simp only [push_cast, Nat.reduceBEq]
 have k3 := of_decide_eq_false k3
 (refine sI ?_; try with_reducible exact True.intro)
 (intros; try refine go_st ?_); refine go_c ?_; (refine sI ?_; try with_reducible exact True.intro)
 refine gb (fun k4 => ?_) (fun k4 => ?_)
 · have k4 := of_decide_eq_true k4
   have hb : ¬ betw x off = true := by rw [hbw, decide_eq_false (show ¬ off ≤ endL x by omega)]; simp
   rw [if_neg hb] at hs5 ⊢
   (intros; try refine go_st ?_); refine go_r 85 95 (by decide) ?_; (refine sJ2 c3r15.eq_1 @q90 ?_; try with_reducible exact True.intro)
   (refine sJ2 @hn0 @q0 ?_; try with_reducible exact True.intro)
   (intros; try refine go_st ?_)
   refine go_ret (retQ_v rfl ?_); simp only [push_cast, Nat.reduceBEq]
 · have k4 := of_decide_eq_false k4
   have hb : betw x off = true := by rw [hbw, decide_eq_true (show start ≤ off by omega), decide_eq_true (show off ≤ endL x by omega)]; rfl
   rw [if_pos hb] at hs5 ⊢
   dsimp only at hs5 ⊢
   have hg24 := hg3.trans hg4
   have hfr := fromL_ok T off 1099511627777 _ G4 (hv2.le hg24 fun _ _ h => BE.le hg24 h) (by omega)
   rw [fromB_all i6] at hfr
   (repeat first | (with_reducible intro _) | refine go_skip ?_ | refine go_b ?_)
   (intros; try refine go_st ?_); refine go_r 95 107 (by decide) ?_; (refine sJ2 c3r16.eq_1 @q0 ?_; try with_reducible exact True.intro)
   refine (ownN_sl hfr _ _).mono ?_
   rintro r h' ⟨G5, L', rfl, hg5, A6, c6, ys, rfl, -, hys, rfl⟩
   (refine sI ?_; try with_reducible exact True.intro)
   refine calls_gx0 F15.enters (gx_slv_at [] _ (by decide) hys) ?_
   rintro h' ⟨G6, rfl, hg6, hv6⟩
   have hg46 := hg5.trans hg6
   have y5 := SameAll_ok (reach off T) (reach off T) _ _ G6 (hs5.le hg46 fun _ _ h => BE.le hg46 h) (hv6.le (.refl _) fun _ _ h => BE.le hg46 h)
   rw [decide_eq_true rfl] at y5
   refine (y5 _ _).mono ?_; rintro _ _ ⟨rfl, rfl⟩; (refine sI ?_; try with_reducible exact True.intro)
   (intros; try refine go_st ?_)
   refine go_ret (retQ_v rfl ?_); simp only [push_cast, Nat.reduceBEq]
end Go.Proofs.Ytppgnokhdpaljaa

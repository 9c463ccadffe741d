/- Parts of a proof, 1 texts in one file. No condition. -/
import Derived.Test.YtdiccicokbbcoaaM1
import Derived.Test.YtdiccicokbbcoaaM2
import Derived.Test.YtdiccicokbbcoaaM3
import Derived.Test.YtdiccicokbbcoaaM4
import Derived.Test.YtdiccicokbbcoaaM5

/- Bytes, part 36 of a proof: the law of a batch moved, walked. No condition. -/
set_option linter.unusedSimpArgs false
set_option linter.unusedVariables false
namespace Go.Proofs.Ytdiccicokbbcoaa
open Go Go.Kx
theorem F5 : Fun Try.prog 5 77 v5 c5 o5 := Fun.mk' Try.func5 Try.ntmps5 (by kernel_rfl) (by kernel_rfl) s5 q5
theorem ownBE_sl {P : Program} {f : FuncId} {args : Array Value} {G : Nat → Option Obj} {p : Batch × Int} (hf : FnO P f args G [] (fun _ L' r => OwnBE p L' r)) :
    FnO P f args G [] (fun _ L' r => ∃ A c ys, r = .tuple #[.agg (cellH p.1 (.slice A p.1.recs.length c)).toArray, .int .i64 p.2] ∧ (p.1.recs.length ≤ c ∧ c ≤ maxLen) ∧ Cells RR 5 p.1.recs ys ∧ (I64 p.1.base ∧ I64 p.1.last ∧ I64 p.1.src ∧ I64 p.1.epoch ∧ I64 p.1.pid ∧ I64 p.1.gen ∧ I64 p.1.seq ∧ I64 p.1.ctl) ∧ L' = [.row (.slice A p.1.recs.length c) 39 5 p.1.recs.length ys]) := fun L D =>
  (hf L D).gx fun v h' ⟨G', L', he, hg, cs', hr, u, ys, hcs, hL, hc, hi⟩ => by
    subst he hL hr hcs
    exact (gx_knowS (.head _)).mono fun h' ⟨h1, A, c, h2, h3, h4⟩ => ⟨G', _, h1, hg, A, c, ys, by rw [h2], ⟨h3, h4⟩, hc, hi, by rw [h2]⟩
set_option maxHeartbeats 2000000 in
theorem BatchMoves_ok (x y : Batch) (base : Int) (cs ds : List Value) (G : Nat → Option Obj) (hx : BE G x cs) (hy : BE G y ds) (ha : I64 base) : FnS Try.prog 5 #[.agg cs.toArray, .agg ds.toArray, .int .i64 base] G (.bool true) := by
  have h1 := Few_ok x cs G hx
  have h2 := Few_ok y ds G hy
  have hx0 := hx
  have hy0 := hy
  have hi := hx
  obtain ⟨A, c, rfl, -⟩ := hx
  obtain ⟨B, d, rfl, -⟩ := hy
  obtain ⟨-, -, -, -, i1, i2, i3, i4, i5, i6, i7, i8⟩ := hi
  have hm1 := fun G' (hg : Gle G G') => Moved_ok x base _ G' (BE.le hg hx0) ha
  have hm2 := fun G' (hg : Gle G G') => RMoved_ok x base _ G' (BE.le hg hx0) ha
  generalize movedB x base = p at hm1 hm2
  obtain ⟨X, ex⟩ := p
  refine F5.fnS (by simp) (go_of ?_)
  unfold c5
  unfold cellH at h1 h2 hx0 hy0 hm1 hm2 ⊢
  (intros; try refine go_st ?_); refine go_r 0 0 (by decide) ?_; (refine sJ c5r0.eq_1 ?_; try with_reducible exact True.intro)
  (intros; try refine go_st ?_); refine go_r 14 15 (by decide) ?_; (refine sJ c5r1.eq_1 ?_; try with_reducible exact True.intro)
  refine (live_ok _ _ _).mono ?_; rintro _ _ ⟨rfl, rfl⟩; (refine sI ?_; try with_reducible exact True.intro)
  (intros; try refine go_st ?_); refine go_c ?_; (refine sI ?_; try with_reducible exact True.intro)
  (repeat first | (with_reducible intro _) | refine go_skip ?_ | refine go_b ?_)
  (intros; try refine go_st ?_); refine go_r 16 23 (by decide) ?_; (refine sJ c5r3.eq_1 ?_; try with_reducible exact True.intro)
  refine (h1 _ _).mono ?_
  rintro r h' ⟨⟨b1, rfl, hb1⟩, rfl⟩
  cases b1
  · (refine sI ?_; try with_reducible exact True.intro)
    (intros; try refine go_st ?_); refine go_c ?_; (refine sI ?_; try with_reducible exact True.intro)
    (intros; try refine go_st ?_); refine go_r 0 0 (by decide) ?_; (refine sJ c5r4.eq_1 ?_; try with_reducible exact True.intro)
    (intros; try refine go_st ?_)
    refine go_ret (retQ_v rfl ?_); simp only [push_cast, Nat.reduceBEq]
  have hb1 := hb1 rfl
  (refine sI ?_; try with_reducible exact True.intro)
  refine (h2 _ _).mono ?_
  rintro r h' ⟨⟨b2, rfl, hb2⟩, rfl⟩
  cases b2
  · (refine sI ?_; try with_reducible exact True.intro)
    (intros; try refine go_st ?_); refine go_c ?_; (refine sI ?_; try with_reducible exact True.intro)
    (intros; try refine go_st ?_); refine go_r 0 0 (by decide) ?_; (refine sJ c5r4.eq_1 ?_; try with_reducible exact True.intro)
    (intros; try refine go_st ?_)
    refine go_ret (retQ_v rfl ?_); simp only [push_cast, Nat.reduceBEq]
  (refine sI ?_; try with_reducible exact True.intro)
  (intros; try refine go_st ?_); refine go_c ?_; (refine sI ?_; try with_reducible exact True.intro)
  (repeat first | (with_reducible intro _) | refine go_skip ?_ | refine go_b ?_)
  (intros; try refine go_st ?_); refine go_r 24 26 (by decide) ?_; (refine sJ c5r5.eq_1 ?_; try with_reducible exact True.intro)
  refine (ownBt_sl (CopyB_ok x _ G hx0 (by omega)) _ []).mono ?_
  rintro r h' ⟨G1, L', rfl, hg1, A1, c1, zc1, rfl, ⟨hc1, hc1'⟩, hzc1, rfl⟩
  unfold cellH
  (refine sI ?_; try with_reducible exact True.intro)
  (repeat (with_reducible intro _)); refine go_seq ?_
  refine go_gx (gx_slv_at [_] _ (by decide) hzc1) ?_
  rintro h' ⟨G2, rfl, hg2, hv2⟩
  have hwas : BE G2 x [.int .i64 x.base, .int .i64 x.last, .int .i64 x.src, .int .i64 x.epoch, .int .i64 x.pid, .int .i64 x.gen, .int .i64 x.seq, .bool x.txn, .int .i64 x.ctl, .slice A1 x.recs.length c1] := by
    obtain ⟨A2, c2, hv, h1, h2, h3⟩ := hv2
    injection hv with e1 e2 e3
    subst e1 e3
    exact ⟨A1, c1, rfl, ⟨h1, h2, h3⟩, i1, i2, i3, i4, i5, i6, i7, i8⟩
  (intros; try refine go_st ?_); refine go_r 26 32 (by decide) ?_; (refine sJ c5r6.eq_1 ?_; try with_reducible exact True.intro)
  refine (ownBE_sl (hm1 G2 (hg1.trans hg2)) _ []).mono ?_
  rintro r h' ⟨G3, L', rfl, hg3, A3, c3, zc3, rfl, ⟨hc3, hc3'⟩, hzc3, hj, rfl⟩
  unfold cellH
  (refine sI ?_; try with_reducible exact True.intro)
  (repeat (with_reducible intro _))
  (intros; try refine go_st ?_); refine go_r 32 38 (by decide) ?_; (refine sJ c5r7.eq_1 ?_; try with_reducible exact True.intro)
  refine (ownBE_sl (hm2 G3 (hg1.trans (hg2.trans hg3))) _ []).mono ?_
  rintro r h' ⟨G4, L', rfl, hg4, A4, c4, zc4, rfl, ⟨hc4, hc4'⟩, hzc4, -, rfl⟩
  unfold cellH
  (refine sI ?_; try with_reducible exact True.intro)
  (repeat (with_reducible intro _)); refine go_seq ?_
  refine go_gx (gx_slv_at [_] _ (by decide) hzc4) ?_
  rintro h' ⟨G5, rfl, hg5, hv5⟩
  have hyb : BE G5 X [.int .i64 X.base, .int .i64 X.last, .int .i64 X.src, .int .i64 X.epoch, .int .i64 X.pid, .int .i64 X.gen, .int .i64 X.seq, .bool X.txn, .int .i64 X.ctl, .slice A4 X.recs.length c4] := by
    obtain ⟨A2, c2, hv, h1, h2, h3⟩ := hv5
    injection hv with e1 e2 e3
    subst e1 e3
    obtain ⟨j1, j2, j3, j4, j5, j6, j7, j8⟩ := hj
    exact ⟨A4, c4, rfl, ⟨h1, h2, h3⟩, j1, j2, j3, j4, j5, j6, j7, j8⟩
  have hc3 : X.recs.length ≤ c3 := hc3
  have hbb : (decide (x = y) == decide (x = y)) = true := by simp
  have g05 : Gle G G5 := hg1.trans (hg2.trans (hg3.trans (hg4.trans hg5)))
  have g25 : Gle G2 G5 := hg3.trans (hg4.trans hg5)
  refine go_ghost (ghost_perm (L' := [.row (.slice A3 X.recs.length c3) 39 5 X.recs.length zc3, .reg 10 [.int .i64 X.base, .int .i64 X.last, .int .i64 X.src, .int .i64 X.epoch, .int .i64 X.pid, .int .i64 X.gen, .int .i64 X.seq, .bool X.txn, .int .i64 X.ctl, .slice A4 X.recs.length c4], .reg 8 [.int .i64 X.base, .int .i64 X.last, .int .i64 X.src, .int .i64 X.epoch, .int .i64 X.pid, .int .i64 X.gen, .int .i64 X.seq, .bool X.txn, .int .i64 X.ctl, .slice A3 X.recs.length c3], .reg 7 [.int .i64 x.base, .int .i64 x.last, .int .i64 x.src, .int .i64 x.epoch, .int .i64 x.pid, .int .i64 x.gen, .int .i64 x.seq, .bool x.txn, .int .i64 x.ctl, .slice A1 x.recs.length c1], .reg 4 [.int .i64 y.base, .int .i64 y.last, .int .i64 y.src, .int .i64 y.epoch, .int .i64 y.pid, .int .i64 y.gen, .int .i64 y.seq, .bool y.txn, .int .i64 y.ctl, .slice B y.recs.length d], .reg 3 [.int .i64 x.base, .int .i64 x.last, .int .i64 x.src, .int .i64 x.epoch, .int .i64 x.pid, .int .i64 x.gen, .int .i64 x.seq, .bool x.txn, .int .i64 x.ctl, .slice A x.recs.length c]]) (List.perm_middle (l₁ := [_, _]))) ?_
  have hsm : ∀ L D, CallsH Try.prog 24 #[.agg #[.int .i64 X.base, .int .i64 X.last, .int .i64 X.src, .int .i64 X.epoch, .int .i64 X.pid, .int .i64 X.gen, .int .i64 X.seq, .bool X.txn, .int .i64 X.ctl, .slice A3 X.recs.length c3], .agg #[.int .i64 X.base, .int .i64 X.last, .int .i64 X.src, .int .i64 X.epoch, .int .i64 X.pid, .int .i64 X.gen, .int .i64 X.seq, .bool X.txn, .int .i64 X.ctl, .slice A4 X.recs.length c4]] ⟨G5, .row (.slice A3 X.recs.length c3) 39 5 X.recs.length zc3 :: L, D⟩ fun r h' => r = .bool true ∧ h' = ⟨G5, .row (.slice A3 X.recs.length c3) 39 5 X.recs.length zc3 :: L, D⟩ := fun L D =>
    lend1 (E := RR) (xs := X.recs) (R := fun r => r = .bool true) F24.enters (by decide) hzc3 fun G' hg hx => by
      obtain ⟨A2, c2, hv, h1, h2, h3⟩ := hx
      injection hv with e1 e2 e3
      subst e1 e3
      obtain ⟨j1, j2, j3, j4, j5, j6, j7, j8⟩ := hj
      have := RSame_ok X X [.int .i64 X.base, .int .i64 X.last, .int .i64 X.src, .int .i64 X.epoch, .int .i64 X.pid, .int .i64 X.gen, .int .i64 X.seq, .bool X.txn, .int .i64 X.ctl, .slice A3 X.recs.length c3] [.int .i64 X.base, .int .i64 X.last, .int .i64 X.src, .int .i64 X.epoch, .int .i64 X.pid, .int .i64 X.gen, .int .i64 X.seq, .bool X.txn, .int .i64 X.ctl, .slice A4 X.recs.length c4] G' ⟨A3, c3, rfl, ⟨h1, h2, h3⟩, j1, j2, j3, j4, j5, j6, j7, j8⟩ (BE.le hg hyb)
      rw [decide_eq_true rfl] at this
      exact this _ _
  (intros; try refine go_st ?_); refine go_x _ (List.Sublist.refl _) (by decide) ?_; (refine sJ c5r8.eq_1 ?_; try with_reducible exact True.intro)
  refine (hsm _ _).mono ?_; rintro _ _ ⟨rfl, rfl⟩; (refine sI ?_; try with_reducible exact True.intro)
  refine (Same_ok x y _ _ G5 (BE.le g05 hx0) (BE.le g05 hy0) _ _).mono ?_; rintro _ _ ⟨rfl, rfl⟩; (refine sI ?_; try with_reducible exact True.intro)
  refine (RSame_ok x y _ _ G5 (BE.le g05 hx0) (BE.le g05 hy0) _ _).mono ?_; rintro _ _ ⟨rfl, rfl⟩; (refine sI ?_; try with_reducible exact True.intro)
  (repeat (with_reducible intro _)); refine go_seq ?_
  refine go_cut (fun e h => e 12 = .bool true ∧ ∃ (zc' : List Value), h = ⟨G5, [.row (.slice A3 X.recs.length c3) 39 5 X.recs.length zc', .reg 10 [.int .i64 X.base, .int .i64 X.last, .int .i64 X.src, .int .i64 X.epoch, .int .i64 X.pid, .int .i64 X.gen, .int .i64 X.seq, .bool X.txn, .int .i64 X.ctl, .slice A4 X.recs.length c4], .reg 8 [.int .i64 X.base, .int .i64 X.last, .int .i64 X.src, .int .i64 X.epoch, .int .i64 X.pid, .int .i64 X.gen, .int .i64 X.seq, .bool X.txn, .int .i64 X.ctl, .slice A3 X.recs.length c3], .reg 7 [.int .i64 x.base, .int .i64 x.last, .int .i64 x.src, .int .i64 x.epoch, .int .i64 x.pid, .int .i64 x.gen, .int .i64 x.seq, .bool x.txn, .int .i64 x.ctl, .slice A1 x.recs.length c1], .reg 4 [.int .i64 y.base, .int .i64 y.last, .int .i64 y.src, .int .i64 y.epoch, .int .i64 y.pid, .int .i64 y.gen, .int .i64 y.seq, .bool y.txn, .int .i64 y.ctl, .slice B y.recs.length d], .reg 3 [.int .i64 x.base, .int .i64 x.last, .int .i64 x.src, .int .i64 x.epoch, .int .i64 x.pid, .int .i64 x.gen, .int .i64 x.seq, .bool x.txn, .int .i64 x.ctl, .slice A x.recs.length c]], []⟩) ?_ ?_
  · (intros; try refine go_st ?_); refine go_r 56 57 (by decide) ?_; (refine sJ c5r9.eq_1 ?_; try with_reducible exact True.intro)
    (intros; try refine go_st ?_)
    refine go_loop (fun e h => ∃ (k : Nat) (zs : List Rec) (zc' : List Value), (k ≤ X.recs.length ∧ zs.length = X.recs.length ∧ Cells RR 5 zs zc') ∧ e 58 = .int .i64 k ∧ e 57 = .int .i64 X.recs.length ∧ e 12 = .bool true ∧ h = ⟨G5, [.row (.slice A3 X.recs.length c3) 39 5 X.recs.length zc', .reg 10 [.int .i64 X.base, .int .i64 X.last, .int .i64 X.src, .int .i64 X.epoch, .int .i64 X.pid, .int .i64 X.gen, .int .i64 X.seq, .bool X.txn, .int .i64 X.ctl, .slice A4 X.recs.length c4], .reg 8 [.int .i64 X.base, .int .i64 X.last, .int .i64 X.src, .int .i64 X.epoch, .int .i64 X.pid, .int .i64 X.gen, .int .i64 X.seq, .bool X.txn, .int .i64 X.ctl, .slice A3 X.recs.length c3], .reg 7 [.int .i64 x.base, .int .i64 x.last, .int .i64 x.src, .int .i64 x.epoch, .int .i64 x.pid, .int .i64 x.gen, .int .i64 x.seq, .bool x.txn, .int .i64 x.ctl, .slice A1 x.recs.length c1], .reg 4 [.int .i64 y.base, .int .i64 y.last, .int .i64 y.src, .int .i64 y.epoch, .int .i64 y.pid, .int .i64 y.gen, .int .i64 y.seq, .bool y.txn, .int .i64 y.ctl, .slice B y.recs.length d], .reg 3 [.int .i64 x.base, .int .i64 x.last, .int .i64 x.src, .int .i64 x.epoch, .int .i64 x.pid, .int .i64 x.gen, .int .i64 x.seq, .bool x.txn, .int .i64 x.ctl, .slice A x.recs.length c]], []⟩) (fun e h => X.recs.length - iv (e 58)) ?_ ?_
    · exact ⟨0, X.recs, zc3, ⟨Nat.zero_le _, rfl, hzc3⟩, eE, eE, (eJ @hbb), rfl⟩
    · rintro e h ⟨k, zs, zc', ⟨hk, hzl, hcs⟩, e58, e57, e12, rfl⟩
      refine go_keep [12, 57, 58] ?_
      (refine sJ3 @e12 @e57 @e58 ?_; try with_reducible exact True.intro)
      (intros; try refine go_st ?_); refine go_r 0 0 (by decide) ?_; (refine sJ c5r10.eq_1 ?_; try with_reducible exact True.intro)
      (intros; try refine go_st ?_); refine go_c ?_; (refine sI ?_; try with_reducible exact True.intro)
      refine gb (fun ht => ?_) (fun ht => ?_)
      · have ht : k < X.recs.length := by have := of_decide_eq_true ht; omega
        have hw := inc_i k c3 (by omega) hc3'
        obtain ⟨r, hr⟩ : ∃ r, zs[k]? = some r := ⟨zs[k], List.getElem?_eq_getElem (by omega)⟩
        obtain ⟨cs0, hE0, hl0, hcell⟩ := hcs.get hr
        have hv0 := hcell 0 (.int .i64 r.off) (by rw [hE0.1]; rfl)
        rw [Nat.add_zero] at hv0
        have hnew := hcs.setF (o := 0) (us := [.int .i64 (IntKind.i64.wrap (r.off + 1))]) (x' := ⟨IntKind.i64.wrap (r.off + 1), r.key, r.val, r.dead, r.stamp⟩) hr (by simp) (fun cs hE hl => by
          have h1 := hE.1
          subst h1
          exact ⟨rfl, ⟨w64_I64 _, hE.2.1.2⟩, hE.2.2⟩)
        rw [Nat.add_zero] at hnew
        (repeat first | (with_reducible intro _) | refine go_skip ?_ | refine go_b ?_)
        (intros; try refine go_st ?_); refine go_r 60 61 (by decide) ?_; (refine sJ c5r11.eq_1 ?_; try with_reducible exact True.intro)
        (intros; try refine go_st ?_)
        refine go_gx (gx_know (v := .slice A3 X.recs.length c3) (.head _) (by omega)) ?_
        rintro h' ⟨rfl, g, c0, hA, -, -⟩
        cases hA
        (intros; try refine go_st ?_); refine go_r 62 70 (by decide) ?_; (refine sJ c5r12.eq_1 ?_; try with_reducible exact True.intro)
        refine ⟨by omega, _, rfl, ?_⟩
        rw [add_off, add_off, Nat.zero_add]
        refine ⟨_, ldN_row (.head _) (by simpa using hv0), ?_⟩
        (refine sJ @Nat.zero_add ?_; try with_reducible exact True.intro)
        refine ⟨by omega, _, rfl, ?_⟩
        rw [add_off, add_off, Nat.zero_add]
        refine stX_row [] [_, _, _, _, _] rfl (by have := hcs.len; simp at this ⊢; omega) ⟨rfl, rfl⟩ ?_
        (refine sI ?_; try with_reducible exact True.intro)
        (intros; try refine go_st ?_); refine go_r 70 71 (by decide) ?_; (refine sJ c5r13.eq_1 ?_; try with_reducible exact True.intro)
        (intros; try refine go_st ?_)
        refine go_l ⟨⟨k + 1, _, _, ⟨by omega, by simpa using hzl, hnew⟩, (eJ @hw), eE, eE, rfl⟩, ?_⟩
        (refine sJ @hw ?_; try with_reducible exact True.intro); omega
      · refine go_exit ?_
        (refine sI ?_; try with_reducible exact True.intro)
        exact go_l ⟨eE, zc', rfl⟩
  rintro e h ⟨e12, zc', rfl⟩
  refine go_keep [12] ?_
  (refine sJ @e12 ?_; try with_reducible exact True.intro)
  (intros; try refine go_st ?_); refine go_r 71 77 (by decide) ?_; (refine sJ c5r14.eq_1 ?_; try with_reducible exact True.intro)
  refine (RSame_ok x x _ _ G5 (BE.le g05 hx0) (BE.le g25 hwas) _ _).mono ?_; rintro _ _ ⟨rfl, rfl⟩; (refine sI ?_; try with_reducible exact True.intro)
  (intros; try refine go_st ?_)
  refine go_ret (retQ_v rfl ?_); simp only [push_cast, Nat.reduceBEq]
end Go.Proofs.Ytdiccicokbbcoaa

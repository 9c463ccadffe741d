/- Parts of a proof, 2 texts in one file. No condition. -/
import Derived.Test.YtdiccicokbbcoaaM1
import Derived.Test.YtdiccicokbbcoaaM2
import Derived.Test.YtdiccicokbbcoaaM3
import Derived.Test.YtdiccicokbbcoaaM4
import Derived.Test.YtdiccicokbbcoaaM5

/- Bytes, part 36 of a proof: the law of a batch moved, walked. No condition. -/
set_option linter.unusedSimpArgs false
set_option linter.unusedVariables false
namespace Go.Proofs.Ytdiccicokbbcoaa
open Go Go.Kx
theorem F5 : Fun Try.prog 5 77 v5 c5 o5 := Fun.mk' Try.func5 Try.ntmps5 (by kernel_rfl) (by kernel_rfl) s5 q5
theorem ownBE_sl {P : Program} {f : FuncId} {args : Array Value} {G : Nat → Option Obj} {p : Batch × Int} (hf : FnO P f args G [] (fun _ L' r => OwnBE p L' r)) :
    FnO P f args G [] (fun _ L' r => ∃ A c ys, r = .tuple #[.agg (cellH p.1 (.slice A p.1.recs.length c)).toArray, .int .i64 p.2] ∧ (p.1.recs.length ≤ c ∧ c ≤ maxLen) ∧ Cells RR 5 p.1.recs ys ∧ (I64 p.1.base ∧ I64 p.1.last ∧ I64 p.1.src ∧ I64 p.1.epoch ∧ I64 p.1.pid ∧ I64 p.1.gen ∧ I64 p.1.seq ∧ I64 p.1.ctl) ∧ L' = [.row (.slice A p.1.recs.length c) 39 5 p.1.recs.length ys]) := fun L D =>
  (hf L D).gx fun v h' ⟨G', L', he, hg, cs', hr, u, ys, hcs, hL, hc, hi⟩ => by
    subst he hL hr hcs
    exact (gx_knowS (.head _)).mono fun h' ⟨h1, A, c, h2, h3, h4⟩ => ⟨G', _, h1, hg, A, c, ys, by rw [h2], ⟨h3, h4⟩, hc, hi, by rw [h2]⟩
set_option maxHeartbeats 2000000 in
theorem BatchMoves_ok (x y : Batch) (base : Int) (cs ds : List Value) (G : Nat → Option Obj) (hx : BE G x cs) (hy : BE G y ds) (ha : I64 base) : FnS Try.prog 5 #[.agg cs.toArray, .agg ds.toArray, .int .i64 base] G (.bool true) := by
  have h1 := Few_ok x cs G hx
  have h2 := Few_ok y ds G hy
  have hx0 := hx
  have hy0 := hy
  have hi := hx
  obtain ⟨A, c, rfl, -⟩ := hx
  obtain ⟨B, d, rfl, -⟩ := hy
  obtain ⟨-, -, -, -, i1, i2, i3, i4, i5, i6, i7, i8⟩ := hi
  have hm1 := fun G' (hg : Gle G G') => Moved_ok x base _ G' (BE.le hg hx0) ha
  have hm2 := fun G' (hg : Gle G G') => RMoved_ok x base _ G' (BE.le hg hx0) ha
  generalize movedB x base = p at hm1 hm2
  obtain ⟨X, ex⟩ := p
  refine F5.fnS (by simp) (go_of ?_)
  unfold c5
  unfold cellH at h1 h2 hx0 hy0 hm1 hm2 ⊢
  (intros; try refine go_st ?_); refine go_r 0 0 (by decide) ?_; (refine sJ c5r0.eq_1 ?_; try with_reducible exact True.intro)
  (intros; try refine go_st ?_); refine go_r 14 15 (by decide) ?_; (refine sJ c5r1.eq_1 ?_; try with_reducible exact True.intro)
  refine (live_ok _ _ _).mono ?_; rintro _ _ ⟨rfl, rfl⟩; (refine sI ?_; try with_reducible exact True.intro)
  (intros; try refine go_st ?_); refine go_c ?_; (refine sI ?_; try with_reducible exact True.intro)
  (repeat first | (with_reducible intro _) | refine go_skip ?_ | refine go_b ?_)
  (intros; try refine go_st ?_); refine go_r 16 23 (by decide) ?_; (refine sJ c5r3.eq_1 ?_; try with_reducible exact True.intro)
  refine (h1 _ _).mono ?_
  rintro r h' ⟨⟨b1, rfl, hb1⟩, rfl⟩
  cases b1
  · (refine sI ?_; try with_reducible exact True.intro)
    (intros; try refine go_st ?_); refine go_c ?_; (refine sI ?_; try with_reducible exact True.intro)
    (intros; try refine go_st ?_); refine go_r 0 0 (by decide) ?_; (refine sJ c5r4.eq_1 ?_; try with_reducible exact True.intro)
    (intros; try refine go_st ?_)
    refine go_ret (retQ_v rfl ?_); simp only [push_cast, Nat.reduceBEq]
  have hb1 := hb1 rfl
  (refine sI ?_; try with_reducible exact True.intro)
  refine (h2 _ _).mono ?_
  rintro r h' ⟨⟨b2, rfl, hb2⟩, rfl⟩
  cases b2
  · (refine sI ?_; try with_reducible exact True.intro)
    (intros; try refine go_st ?_); refine go_c ?_; (refine sI ?_; try with_reducible exact True.intro)
    (intros; try refine go_st ?_); refine go_r 0 0 (by decide) ?_; (refine sJ c5r4.eq_1 ?_; try with_reducible exact True.intro)
    (intros; try refine go_st ?_)
    refine go_ret (retQ_v rfl ?_); simp only [push_cast, Nat.reduceBEq]
  (refine sI ?_; try with_reducible exact True.intro)
  (intros; try refine go_st ?_); refine go_c ?_; (refine sI ?_; try with_reducible exact True.intro)
  (repeat first | (with_reducible intro _) | refine go_skip ?_ | refine go_b ?_)
  (intros; try refine go_st ?_); refine go_r 24 26 (by decide) ?_; (refine sJ c5r5.eq_1 ?_; try with_reducible exact True.intro)
  refine (ownBt_sl (CopyB_ok x _ G hx0 (by omega)) _ []).mono ?_
  rintro r h' ⟨G1, L', rfl, hg1, A1, c1, zc1, rfl, ⟨hc1, hc1'⟩, hzc1, rfl⟩
  unfold cellH
  (refine sI ?_; try with_reducible exact True.intro)
  (repeat (with_reducible intro _)); refine go_seq ?_
  refine go_gx (gx_slv_at [_] _ (by decide) hzc1) ?_
  rintro h' ⟨G2, rfl, hg2, hv2⟩
  have hwas : BE G2 x [.int .i64 x.base, .int .i64 x.last, .int .i64 x.src, .int .i64 x.epoch, .int .i64 x.pid, .int .i64 x.gen, .int .i64 x.seq, .bool x.txn, .int .i64 x.ctl, .slice A1 x.recs.length c1] := by
    obtain ⟨A2, c2, hv, h1, h2, h3⟩ := hv2
    injection hv with e1 e2 e3
    subst e1 e3
    exact ⟨A1, c1, rfl, ⟨h1, h2, h3⟩, i1, i2, i3, i4, i5, i6, i7, i8⟩
  (intros; try refine go_st ?_); refine go_r 26 32 (by decide) ?_; (refine sJ c5r6.eq_1 ?_; try with_reducible exact True.intro)
  refine (ownBE_sl (hm1 G2 (hg1.trans hg2)) _ []).mono ?_
  rintro r h' ⟨G3, L', rfl, hg3, A3, c3, zc3, rfl, ⟨hc3, hc3'⟩, hzc3, hj, rfl⟩
  unfold cellH
  (refine sI ?_; try with_reducible exact True.intro)
  (repeat (with_reducible intro _))
  (intros; try refine go_st ?_); refine go_r 32 38 (by decide) ?_; (refine sJ c5r7.eq_1 ?_; try with_reducible exact True.intro)
  refine (ownBE_sl (hm2 G3 (hg1.trans (hg2.trans hg3))) _ []).mono ?_
  rintro r h' ⟨G4, L', rfl, hg4, A4, c4, zc4, rfl, ⟨hc4, hc4'⟩, hzc4, -, rfl⟩
  unfold cellH
  (refine sI ?_; try with_reducible exact True.intro)
  (repeat (with_reducible intro _)); refine go_seq ?_
  refine go_gx (gx_slv_at [_] _ (by decide) hzc4) ?_
  rintro h' ⟨G5, rfl, hg5, hv5⟩
  have hyb : BE G5 X [.int .i64 X.base, .int .i64 X.last, .int .i64 X.src, .int .i64 X.epoch, .int .i64 X.pid, .int .i64 X.gen, .int .i64 X.seq, .bool X.txn, .int .i64 X.ctl, .slice A4 X.recs.length c4] := by
    obtain ⟨A2, c2, hv, h1, h2, h3⟩ := hv5
    injection hv with e1 e2 e3
    subst e1 e3
    obtain ⟨j1, j2, j3, j4, j5, j6, j7, j8⟩ := hj
    exact ⟨A4, c4, rfl, ⟨h1, h2, h3⟩, j1, j2, j3, j4, j5, j6, j7, j8⟩
  have hc3 : X.recs.length ≤ c3 := hc3
  have hbb : (decide (x = y) == decide (x = y)) = true := by simp
  have g05 : Gle G G5 := hg1.trans (hg2.trans (hg3.trans (hg4.trans hg5)))
  have g25 : Gle G2 G5 := hg3.trans (hg4.trans hg5)
  refine go_ghost (ghost_perm (L' := [.row (.slice A3 X.recs.length c3) 39 5 X.recs.length zc3, .reg 10 [.int .i64 X.base, .int .i64 X.last, .int .i64 X.src, .int .i64 X.epoch, .int .i64 X.pid, .int .i64 X.gen, .int .i64 X.seq, .bool X.txn, .int .i64 X.ctl, .slice A4 X.recs.length c4], .reg 8 [.int .i64 X.base, .int .i64 X.last, .int .i64 X.src, .int .i64 X.epoch, .int .i64 X.pid, .int .i64 X.gen, .int .i64 X.seq, .bool X.txn, .int .i64 X.ctl, .slice A3 X.recs.length c3], .reg 7 [.int .i64 x.base, .int .i64 x.last, .int .i64 x.src, .int .i64 x.epoch, .int .i64 x.pid, .int .i64 x.gen, .int .i64 x.seq, .bool x.txn, .int .i64 x.ctl, .slice A1 x.recs.length c1], .reg 4 [.int .i64 y.base, .int .i64 y.last, .int .i64 y.src, .int .i64 y.epoch, .int .i64 y.pid, .int .i64 y.gen, .int .i64 y.seq, .bool y.txn, .int .i64 y.ctl, .slice B y.recs.length d], .reg 3 [.int .i64 x.base, .int .i64 x.last, .int .i64 x.src, .int .i64 x.epoch, .int .i64 x.pid, .int .i64 x.gen, .int .i64 x.seq, .bool x.txn, .int .i64 x.ctl, .slice A x.recs.length c]]) (List.perm_middle (l₁ := [_, _]))) ?_
  have hsm : ∀ L D, CallsH Try.prog 24 #[.agg #[.int .i64 X.base, .int .i64 X.last, .int .i64 X.src, .int .i64 X.epoch, .int .i64 X.pid, .int .i64 X.gen, .int .i64 X.seq, .bool X.txn, .int .i64 X.ctl, .slice A3 X.recs.length c3], .agg #[.int .i64 X.base, .int .i64 X.last, .int .i64 X.src, .int .i64 X.epoch, .int .i64 X.pid, .int .i64 X.gen, .int .i64 X.seq, .bool X.txn, .int .i64 X.ctl, .slice A4 X.recs.length c4]] ⟨G5, .row (.slice A3 X.recs.length c3) 39 5 X.recs.length zc3 :: L, D⟩ fun r h' => r = .bool true ∧ h' = ⟨G5, .row (.slice A3 X.recs.length c3) 39 5 X.recs.length zc3 :: L, D⟩ := fun L D =>
    lend1 (E := RR) (xs := X.recs) (R := fun r => r = .bool true) F24.enters (by decide) hzc3 fun G' hg hx => by
      obtain ⟨A2, c2, hv, h1, h2, h3⟩ := hx
      injection hv with e1 e2 e3
      subst e1 e3
      obtain ⟨j1, j2, j3, j4, j5, j6, j7, j8⟩ := hj
      have := RSame_ok X X [.int .i64 X.base, .int .i64 X.last, .int .i64 X.src, .int .i64 X.epoch, .int .i64 X.pid, .int .i64 X.gen, .int .i64 X.seq, .bool X.txn, .int .i64 X.ctl, .slice A3 X.recs.length c3] [.int .i64 X.base, .int .i64 X.last, .int .i64 X.src, .int .i64 X.epoch, .int .i64 X.pid, .int .i64 X.gen, .int .i64 X.seq, .bool X.txn, .int .i64 X.ctl, .slice A4 X.recs.length c4] G' ⟨A3, c3, rfl, ⟨h1, h2, h3⟩, j1, j2, j3, j4, j5, j6, j7, j8⟩ (BE.le hg hyb)
      rw [decide_eq_true rfl] at this
      exact this _ _
  (intros; try refine go_st ?_); refine go_x _ (List.Sublist.refl _) (by decide) ?_; (refine sJ c5r8.eq_1 ?_; try with_reducible exact True.intro)
  refine (hsm _ _).mono ?_; rintro _ _ ⟨rfl, rfl⟩; (refine sI ?_; try with_reducible exact True.intro)
  refine (Same_ok x y _ _ G5 (BE.le g05 hx0) (BE.le g05 hy0) _ _).mono ?_; rintro _ _ ⟨rfl, rfl⟩; (refine sI ?_; try with_reducible exact True.intro)
  refine (RSame_ok x y _ _ G5 (BE.le g05 hx0) (BE.le g05 hy0) _ _).mono ?_; rintro _ _ ⟨rfl, rfl⟩; (refine sI ?_; try with_reducible exact True.intro)
  (repeat (with_reducible intro _)); refine go_seq ?_
  refine go_cut (fun e h => e 12 = .bool true ∧ ∃ (zc' : List Value), h = ⟨G5, [.row (.slice A3 X.recs.length c3) 39 5 X.recs.length zc', .reg 10 [.int .i64 X.base, .int .i64 X.last, .int .i64 X.src, .int .i64 X.epoch, .int .i64 X.pid, .int .i64 X.gen, .int .i64 X.seq, .bool X.txn, .int .i64 X.ctl, .slice A4 X.recs.length c4], .reg 8 [.int .i64 X.base, .int .i64 X.last, .int .i64 X.src, .int .i64 X.epoch, .int .i64 X.pid, .int .i64 X.gen, .int .i64 X.seq, .bool X.txn, .int .i64 X.ctl, .slice A3 X.recs.length c3], .reg 7 [.int .i64 x.base, .int .i64 x.last, .int .i64 x.src, .int .i64 x.epoch, .int .i64 x.pid, .int .i64 x.gen, .int .i64 x.seq, .bool x.txn, .int .i64 x.ctl, .slice A1 x.recs.length c1], .reg 4 [.int .i64 y.base, .int .i64 y.last, .int .i64 y.src, .int .i64 y.epoch, .int .i64 y.pid, .int .i64 y.gen, .int .i64 y.seq, .bool y.txn, .int .i64 y.ctl, .slice B y.recs.length d], .reg 3 [.int .i64 x.base, .int .i64 x.last, .int .i64 x.src, .int .i64 x.epoch, .int .i64 x.pid, .int .i64 x.gen, .int .i64 x.seq, .bool x.txn, .int .i64 x.ctl, .slice A x.recs.length c]], []⟩) ?_ ?_
  · (intros; try refine go_st ?_); refine go_r 56 57 (by decide) ?_; (refine sJ c5r9.eq_1 ?_; try with_reducible exact True.intro)
    (intros; try refine go_st ?_)
    refine go_loop (fun e h => ∃ (k : Nat) (zs : List Rec) (zc' : List Value), (k ≤ X.recs.length ∧ zs.length = X.recs.length ∧ Cells RR 5 zs zc') ∧ e 58 = .int .i64 k ∧ e 57 = .int .i64 X.recs.length ∧ e 12 = .bool true ∧ h = ⟨G5, [.row (.slice A3 X.recs.length c3) 39 5 X.recs.length zc', .reg 10 [.int .i64 X.base, .int .i64 X.last, .int .i64 X.src, .int .i64 X.epoch, .int .i64 X.pid, .int .i64 X.gen, .int .i64 X.seq, .bool X.txn, .int .i64 X.ctl, .slice A4 X.recs.length c4], .reg 8 [.int .i64 X.base, .int .i64 X.last, .int .i64 X.src, .int .i64 X.epoch, .int .i64 X.pid, .int .i64 X.gen, .int .i64 X.seq, .bool X.txn, .int .i64 X.ctl, .slice A3 X.recs.length c3], .reg 7 [.int .i64 x.base, .int .i64 x.last, .int .i64 x.src, .int .i64 x.epoch, .int .i64 x.pid, .int .i64 x.gen, .int .i64 x.seq, .bool x.txn, .int .i64 x.ctl, .slice A1 x.recs.length c1], .reg 4 [.int .i64 y.base, .int .i64 y.last, .int .i64 y.src, .int .i64 y.epoch, .int .i64 y.pid, .int .i64 y.gen, .int .i64 y.seq, .bool y.txn, .int .i64 y.ctl, .slice B y.recs.length d], .reg 3 [.int .i64 x.base, .int .i64 x.last, .int .i64 x.src, .int .i64 x.epoch, .int .i64 x.pid, .int .i64 x.gen, .int .i64 x.seq, .bool x.txn, .int .i64 x.ctl, .slice A x.recs.length c]], []⟩) (fun e h => X.recs.length - iv (e 58)) ?_ ?_
    · exact ⟨0, X.recs, zc3, ⟨Nat.zero_le _, rfl, hzc3⟩, eE, eE, (eJ @hbb), rfl⟩
    · rintro e h ⟨k, zs, zc', ⟨hk, hzl, hcs⟩, e58, e57, e12, rfl⟩
      refine go_keep [12, 57, 58] ?_
      (refine sJ3 @e12 @e57 @e58 ?_; try with_reducible exact True.intro)
      (intros; try refine go_st ?_); refine go_r 0 0 (by decide) ?_; (refine sJ c5r10.eq_1 ?_; try with_reducible exact True.intro)
      (intros; try refine go_st ?_); refine go_c ?_; (refine sI ?_; try with_reducible exact True.intro)
      refine gb (fun ht => ?_) (fun ht => ?_)
      · have ht : k < X.recs.length := by have := of_decide_eq_true ht; omega
        have hw := inc_i k c3 (by omega) hc3'
        obtain ⟨r, hr⟩ : ∃ r, zs[k]? = some r := ⟨zs[k], List.getElem?_eq_getElem (by omega)⟩
        obtain ⟨cs0, hE0, hl0, hcell⟩ := hcs.get hr
        have hv0 := hcell 0 (.int .i64 r.off) (by rw [hE0.1]; rfl)
        rw [Nat.add_zero] at hv0
        have hnew := hcs.setF (o := 0) (us := [.int .i64 (IntKind.i64.wrap (r.off + 1))]) (x' := ⟨IntKind.i64.wrap (r.off + 1), r.key, r.val, r.dead, r.stamp⟩) hr (by simp) (fun cs hE hl => by
          have h1 := hE.1
          subst h1
          exact ⟨rfl, ⟨w64_I64 _, hE.2.1.2⟩, hE.2.2⟩)
        rw [Nat.add_zero] at hnew
        (repeat first | (with_reducible intro _) | refine go_skip ?_ | refine go_b ?_)
        (intros; try refine go_st ?_); refine go_r 60 61 (by decide) ?_; (refine sJ c5r11.eq_1 ?_; try with_reducible exact True.intro)
        (intros; try refine go_st ?_)
        refine go_gx (gx_know (v := .slice A3 X.recs.length c3) (.head _) (by omega)) ?_
        rintro h' ⟨rfl, g, c0, hA, -, -⟩
        cases hA
        (intros; try refine go_st ?_); refine go_r 62 70 (by decide) ?_; (refine sJ c5r12.eq_1 ?_; try with_reducible exact True.intro)
        refine ⟨by omega, _, rfl, ?_⟩
        rw [add_off, add_off, Nat.zero_add]
        refine ⟨_, ldN_row (.head _) (by simpa using hv0), ?_⟩
        (refine sJ @Nat.zero_add ?_; try with_reducible exact True.intro)
        refine ⟨by omega, _, rfl, ?_⟩
        rw [add_off, add_off, Nat.zero_add]
        refine stX_row [] [_, _, _, _, _] rfl (by have := hcs.len; simp at this ⊢; omega) ⟨rfl, rfl⟩ ?_
        (refine sI ?_; try with_reducible exact True.intro)
        (intros; try refine go_st ?_); refine go_r 70 71 (by decide) ?_; (refine sJ c5r13.eq_1 ?_; try with_reducible exact True.intro)
        (intros; try refine go_st ?_)
        refine go_l ⟨⟨k + 1, _, _, ⟨by omega, by simpa using hzl, hnew⟩, (eJ @hw), eE, eE, rfl⟩, ?_⟩
        (refine sJ @hw ?_; try with_reducible exact True.intro); omega
      · refine go_exit ?_
        (refine sI ?_; try with_reducible exact True.intro)
        exact go_l ⟨eE, zc', rfl⟩
  rintro e h ⟨e12, zc', rfl⟩
  refine go_keep [12] ?_
  (refine sJ @e12 ?_; try with_reducible exact True.intro)
  (intros; try refine go_st ?_); refine go_r 71 77 (by decide) ?_; (refine sJ c5r14.eq_1 ?_; try with_reducible exact True.intro)
  refine (RSame_ok x x _ _ G5 (BE.le g05 hx0) (BE.le g25 hwas) _ _).mono ?_; rintro _ _ ⟨rfl, rfl⟩; (refine sI ?_; try with_reducible exact True.intro)
  (intros; try refine go_st ?_)
  refine go_ret (retQ_v rfl ?_); simp only [push_cast, Nat.reduceBEq]
end Go.Proofs.Ytdiccicokbbcoaa

/- Bytes, part 37 of a proof: the law of a batch moved there and back. No condition. -/
set_option linter.unusedSimpArgs false
set_option linter.unusedVariables false
namespace Go.Proofs.Ytdiccicokbbcoaa
open Go Go.Kx
theorem F6 : Fun Try.prog 6 104 v6 c6 o6 := Fun.mk' Try.func6 Try.ntmps6 (by kernel_rfl) (by kernel_rfl) s6 q6
theorem mov_mov (x : Batch) (base : Int) : movB (movB x base) x.base = x := by
  have h : ∀ r : Rec, movR (x.base - base) (movR (base - x.base) r) = r := fun r => by
    unfold movR
    rw [show r.off + (base - x.base) + (x.base - base) = r.off by omega]
  unfold movB
  simp only [List.map_map]
  rw [show x.last + (base - x.base) + (x.base - base) = x.last by omega, show (movR (x.base - base) ∘ movR (base - x.base)) = id from funext h, List.map_id]
theorem moved_ok {x : Batch} {base : Int} (h : (movedB x base).2 = 0) : movedB x base = (movB x base, 0) ∧ rng 1099511627776 base = true ∧ errB x = 0 ∧ errB (movB x base) = 0 := by
  unfold movedB at h ⊢
  split at h <;> rename_i h1
  · split at h <;> rename_i h2
    · split at h <;> rename_i h3
      · rw [if_pos h1, if_pos h2, if_pos h3]; exact ⟨rfl, h1, h2, h3⟩
      · exact absurd h h3
    · exact absurd h h2
  · exact absurd h (by decide)
theorem moved_none {x : Batch} {base : Int} (h : (movedB x base).2 ≠ 0) : (movedB x base).1 = noneB := by
  unfold movedB at h ⊢
  split at h <;> rename_i h1
  · split at h <;> rename_i h2
    · split at h <;> rename_i h3
      · exact absurd rfl h
      · rw [if_pos h1, if_pos h2, if_neg h3]
    · rw [if_pos h1, if_neg h2]
  · rw [if_neg h1]
theorem moved_back {x : Batch} {base : Int} (h : (movedB x base).2 = 0) : movedB (movB x base) x.base = (x, 0) := by
  obtain ⟨-, h1, h2, h3⟩ := moved_ok h
  obtain ⟨hf, -⟩ := errB_ok h2
  obtain ⟨⟨f1, f2, -⟩, -⟩ := hf
  unfold movedB
  rw [if_pos (by simpa [rng] using f1), if_pos h3, mov_mov, if_pos h2]
theorem noneB_BE (G : Nat → Option Obj) : BE G noneB [.int .i64 0, .int .i64 0, .int .i64 0, .int .i64 0, .int .i64 0, .int .i64 0, .int .i64 0, .bool false, .int .i64 0, .slice none 0 0] := ⟨none, 0, rfl, ⟨Nat.le_refl _, Nat.zero_le _, fun i x hx => by simp [noneB] at hx⟩, by decide, by decide, by decide, by decide, by decide, by decide, by decide, by decide⟩
set_option maxHeartbeats 2000000 in
theorem BatchThere_ok (x : Batch) (base : Int) (cs : List Value) (G : Nat → Option Obj) (hx : BE G x cs) (ha : I64 base) : FnS Try.prog 6 #[.agg cs.toArray, .int .i64 base] G (.bool true) := by
  have h1 := Few_ok x cs G hx
  have hx0 := hx
  have hi := hx
  obtain ⟨A, c, rfl, hxv⟩ := hx
  obtain ⟨⟨hc, hm, hA⟩, i1, i2, i3, i4, i5, i6, i7, i8⟩ := hxv
  have hm1 := Moved_ok x base _ G hx0 ha
  refine F6.fnS (by simp) (go_of ?_)
  unfold c6
  unfold cellH at h1 hx0 hm1 ⊢
  (intros; try refine go_st ?_); refine go_r 0 0 (by decide) ?_; (refine sJ c6r0.eq_1 ?_; try with_reducible exact True.intro)
  (intros; try refine go_st ?_); refine go_r 11 12 (by decide) ?_; (refine sJ c6r1.eq_1 ?_; try with_reducible exact True.intro)
  refine (live_ok _ _ _).mono ?_; rintro _ _ ⟨rfl, rfl⟩; (refine sI ?_; try with_reducible exact True.intro)
  (intros; try refine go_st ?_); refine go_c ?_; (refine sI ?_; try with_reducible exact True.intro)
  (repeat first | (with_reducible intro _) | refine go_skip ?_ | refine go_b ?_)
  (intros; try refine go_st ?_); refine go_r 13 15 (by decide) ?_; (refine sJ c6r3.eq_1 ?_; try with_reducible exact True.intro)
  refine (h1 _ _).mono ?_
  rintro r h' ⟨⟨b1, rfl, hb1⟩, rfl⟩
  (refine sI ?_; try with_reducible exact True.intro)
  (intros; try refine go_st ?_); refine go_c ?_; (refine sI ?_; try with_reducible exact True.intro)
  refine gb (fun k1 => ?_) (fun k1 => ?_)
  · (intros; try refine go_st ?_); refine go_r 0 0 (by decide) ?_; (refine sJ c6r4.eq_1 ?_; try with_reducible exact True.intro)
    (intros; try refine go_st ?_)
    refine go_ret (retQ_v rfl ?_); simp only [push_cast, Nat.reduceBEq]
  have hb1 := hb1 (by simpa using k1)
  (repeat first | (with_reducible intro _) | refine go_skip ?_ | refine go_b ?_)
  (intros; try refine go_st ?_); refine go_r 16 22 (by decide) ?_; (refine sJ c6r5.eq_1 ?_; try with_reducible exact True.intro)
  refine (ownBE_sl hm1 _ []).mono ?_
  have hno := fun h => moved_none (x := x) (base := base) h
  have hok := fun h => moved_ok (x := x) (base := base) h
  have hbk := fun h => moved_back (x := x) (base := base) h
  generalize movedB x base = p at hno hok hbk
  obtain ⟨X, ex⟩ := p
  rintro r h' ⟨G1, L', rfl, hg1, A1, c1, zc1, rfl, ⟨hc1, hc1'⟩, hzc1, hj, rfl⟩
  unfold cellH
  (refine sI ?_; try with_reducible exact True.intro)
  (repeat (with_reducible intro _)); refine go_seq ?_
  refine go_gx (gx_slv_at [_] _ (by decide) hzc1) ?_
  rintro h' ⟨G2, rfl, hg2, hv2⟩
  have hX : BE G2 X [.int .i64 X.base, .int .i64 X.last, .int .i64 X.src, .int .i64 X.epoch, .int .i64 X.pid, .int .i64 X.gen, .int .i64 X.seq, .bool X.txn, .int .i64 X.ctl, .slice A1 X.recs.length c1] := by
    obtain ⟨A2, c2, hv, h1, h2, h3⟩ := hv2
    injection hv with e1 e2 e3
    subst e1 e3
    obtain ⟨j1, j2, j3, j4, j5, j6, j7, j8⟩ := hj
    exact ⟨A1, c1, rfl, ⟨h1, h2, h3⟩, j1, j2, j3, j4, j5, j6, j7, j8⟩
  have hX0 := hX
  (intros; try refine go_st ?_); refine go_r 22 23 (by decide) ?_; (refine sJ c6r6.eq_1 ?_; try with_reducible exact True.intro)
  (intros; try refine go_st ?_); refine go_c ?_; (refine sI ?_; try with_reducible exact True.intro)
  refine gb (fun k2 => ?_) (fun k2 => ?_)
  · have k2 : ex ≠ 0 := of_decide_eq_true k2
    have hX1 : X = noneB := hno k2
    (intros; try refine go_st ?_); refine go_r 24 27 (by decide) ?_; (refine sJ c6r7.eq_1 ?_; try with_reducible exact True.intro)
    refine (Same_ok X noneB _ _ G2 hX (noneB_BE G2) _ _).mono ?_; rintro _ _ ⟨rfl, rfl⟩; (refine sI ?_; try with_reducible exact True.intro)
    (intros; try refine go_st ?_)
    refine go_ret (retQ_v rfl ?_); simp only [push_cast, Nat.reduceBEq]
    rw [decide_eq_true hX1]
  have k2 : ex = 0 := by simpa using k2
  subst k2
  obtain ⟨hp, hrb, hex, hem⟩ := hok rfl
  have hbk := hbk rfl
  have hX1 : X = movB x base := (Prod.mk.injEq _ _ _ _ ▸ hp).1
  have hb : movedB X x.base = (x, 0) := by rw [hX1]; exact hbk
  have hm2 := Moved_ok X x.base _ G2 hX0 i1
  rw [hb] at hm2
  have hXb : X.base = base := by rw [hX1]; rfl
  have hXs : X.src = x.src := by rw [hX1]; rfl
  have hXr : X.recs = x.recs.map (movR (base - x.base)) := by rw [hX1]; rfl
  have hXn : X.recs.length = x.recs.length := by rw [hXr]; simp
  have hXl : X.last - X.base = x.last - x.base := by rw [hX1]; show x.last + (base - x.base) - base = _; omega
  (repeat first | (with_reducible intro _) | refine go_skip ?_ | refine go_b ?_)
  (intros; try refine go_st ?_); refine go_r 27 34 (by decide) ?_; (refine sJ c6r8.eq_1 ?_; try with_reducible exact True.intro)
  refine (ownBE_sl hm2 _ []).mono ?_
  rintro r h' ⟨G3, L', rfl, hg3, A3, c3, zc3, rfl, ⟨hc3, hc3'⟩, hzc3, -, rfl⟩
  unfold cellH
  (refine sI ?_; try with_reducible exact True.intro)
  (repeat (with_reducible intro _)); refine go_seq ?_
  refine go_gx (gx_slv_at [_] _ (by decide) hzc3) ?_
  rintro h' ⟨G4, rfl, hg4, hv4⟩
  have hY : BE G4 x [.int .i64 x.base, .int .i64 x.last, .int .i64 x.src, .int .i64 x.epoch, .int .i64 x.pid, .int .i64 x.gen, .int .i64 x.seq, .bool x.txn, .int .i64 x.ctl, .slice A3 x.recs.length c3] := by
    obtain ⟨A2, c2, hv, h1, h2, h3⟩ := hv4
    injection hv with e1 e2 e3
    subst e1 e3
    exact ⟨A3, c3, rfl, ⟨h1, h2, h3⟩, i1, i2, i3, i4, i5, i6, i7, i8⟩
  have g04 : Gle G G4 := hg1.trans (hg2.trans (hg3.trans hg4))
  have hz : decide ((0 : Int) ≠ 0) = false := by decide
  have hz1 : decide (X.base ≠ base) = false := decide_eq_false fun h => h hXb
  have hz2 : decide (IntKind.i64.wrap (X.last - X.base) ≠ IntKind.i64.wrap (x.last - x.base)) = false := decide_eq_false fun h => h (by rw [hXl])
  have hz3 : decide (X.src ≠ x.src) = false := decide_eq_false fun h => h hXs
  have hz4 : decide ((X.recs.length : Int) ≠ (x.recs.length : Int)) = false := decide_eq_false fun h => h (by rw [hXn])
  (intros; try refine go_st ?_); refine go_r 34 76 (by decide) ?_; (refine sJ2 c6r9.eq_1 @hz ?_; try with_reducible exact True.intro)
  refine (Same_ok x x _ _ G4 hY (BE.le g04 hx0) _ _).mono ?_; rintro _ _ ⟨rfl, rfl⟩; (refine sJ4 @hz1 @hz2 @hz3 @hz4 ?_; try with_reducible exact True.intro)
  (intros; try refine go_st ?_); refine go_c ?_; (refine sI ?_; try with_reducible exact True.intro)
  (repeat first | (with_reducible intro _) | refine go_skip ?_ | refine go_b ?_)
  (intros; try refine go_st ?_); refine go_r 0 0 (by decide) ?_; (refine sJ c6r11.eq_1 ?_; try with_reducible exact True.intro)
  (intros; try refine go_st ?_)
  have hc1 : X.recs.length ≤ c1 := hc1
  have hXA : SlA G4 RR 5 A1 X.recs := by
    obtain ⟨A2, c2, hv, h1, h2, h3⟩ := hv2
    injection hv with e1
    subst e1
    exact h3.le (hg3.trans hg4) (fun _ _ h => h)
  have hxA : SlA G4 RR 5 A x.recs := hA.le g04 (fun _ _ h => h)
  obtain ⟨hf, -⟩ := errB_ok hex
  obtain ⟨⟨f1, -⟩, -⟩ := hf
  simp [rng] at f1 hrb
  have w1 : IntKind.i64.wrap (x.base - base) = x.base - base := by rw [w64_id] <;> omega
  have hck := BCheck_ok X _ G4 (BE.le (hg3.trans hg4) hX0)
  rw [hX1, hem, ← hX1] at hck
  refine go_loop (fun e h => ∃ k : Nat, k ≤ X.recs.length ∧ e 80 = .int .i64 k ∧ e 79 = .int .i64 X.recs.length ∧ e 78 = .slice A1 X.recs.length c1 ∧ e 1 = .int .i64 base ∧ h = ⟨G4, [.reg 7 [.int .i64 x.base, .int .i64 x.last, .int .i64 x.src, .int .i64 x.epoch, .int .i64 x.pid, .int .i64 x.gen, .int .i64 x.seq, .bool x.txn, .int .i64 x.ctl, .slice A3 x.recs.length c3], .reg 5 [.int .i64 X.base, .int .i64 X.last, .int .i64 X.src, .int .i64 X.epoch, .int .i64 X.pid, .int .i64 X.gen, .int .i64 X.seq, .bool X.txn, .int .i64 X.ctl, .slice A1 X.recs.length c1], .reg 2 [.int .i64 x.base, .int .i64 x.last, .int .i64 x.src, .int .i64 x.epoch, .int .i64 x.pid, .int .i64 x.gen, .int .i64 x.seq, .bool x.txn, .int .i64 x.ctl, .slice A x.recs.length c]], []⟩) (fun e h => X.recs.length - iv (e 80)) ?_ ?_
  · exact ⟨0, Nat.zero_le _, eE, eE, eE, eE, rfl⟩
  · rintro e h ⟨k, hk, e80, e79, e78, e1, rfl⟩
    refine go_keep [1, 78, 79, 80] ?_
    (refine sJ4 @e1 @e78 @e79 @e80 ?_; try with_reducible exact True.intro)
    (intros; try refine go_st ?_); refine go_r 0 0 (by decide) ?_; (refine sJ c6r12.eq_1 ?_; try with_reducible exact True.intro)
    (intros; try refine go_st ?_); refine go_c ?_; (refine sI ?_; try with_reducible exact True.intro)
    refine gb (fun ht => ?_) (fun ht => ?_)
    · have ht : k < X.recs.length := by have := of_decide_eq_true ht; omega
      have hw := inc_i k c1 (by omega) hc1'
      obtain ⟨r, hr⟩ : ∃ r, x.recs[k]? = some r := ⟨x.recs[k], List.getElem?_eq_getElem (by omega)⟩
      have hXk : X.recs[k]? = some (movR (base - x.base) r) := by rw [hXr, List.getElem?_map, hr]; rfl
      obtain ⟨-, cs0, -, -, hRR, -⟩ := hxA k r hr
      have hio : I64 r.off := hRR.2.1.1
      have w2 : IntKind.i64.wrap (r.off + (base - x.base) + (x.base - base)) = r.off := by
        rw [show r.off + (base - x.base) + (x.base - base) = r.off by omega, w64_id] <;> (unfold I64 at hio; omega)
      have heq := eqCR r r
      rw [decide_eq_true rfl] at heq
      (repeat first | (with_reducible intro _) | refine go_skip ?_ | refine go_b ?_)
      (intros; try refine go_st ?_); refine go_r 82 85 (by decide) ?_; (refine sJ c6r13.eq_1 ?_; try with_reducible exact True.intro)
      refine hXA.x_ld hXk rfl rfl ?_
      rintro a1 ha1 cs ⟨rfl, -⟩
      unfold cellR movR
      (refine sI ?_; try with_reducible exact True.intro)
      (intros; try refine go_st ?_); refine go_r 86 92 (by decide) ?_; (refine sJ3 c6r14.eq_1 @w1 @w2 ?_; try with_reducible exact True.intro)
      (intros; try refine go_st ?_); refine go_q 93 99 (by decide) ?_; (refine sJ c6r15.eq_1 ?_; try with_reducible exact True.intro)
      refine hxA.y_ld hr rfl rfl ?_
      rintro a2 ha2 cs ⟨rfl, -⟩
      unfold cellR at heq ⊢
      (refine sJ @heq ?_; try with_reducible exact True.intro)
      (intros; try refine go_st ?_); refine go_c ?_; (refine sI ?_; try with_reducible exact True.intro)
      (repeat first | (with_reducible intro _) | refine go_skip ?_ | refine go_b ?_)
      refine go_ghost (ghost_sub (L' := [.reg 7 [.int .i64 x.base, .int .i64 x.last, .int .i64 x.src, .int .i64 x.epoch, .int .i64 x.pid, .int .i64 x.gen, .int .i64 x.seq, .bool x.txn, .int .i64 x.ctl, .slice A3 x.recs.length c3], .reg 5 [.int .i64 X.base, .int .i64 X.last, .int .i64 X.src, .int .i64 X.epoch, .int .i64 X.pid, .int .i64 X.gen, .int .i64 X.seq, .bool X.txn, .int .i64 X.ctl, .slice A1 X.recs.length c1], .reg 2 [.int .i64 x.base, .int .i64 x.last, .int .i64 x.src, .int .i64 x.epoch, .int .i64 x.pid, .int .i64 x.gen, .int .i64 x.seq, .bool x.txn, .int .i64 x.ctl, .slice A x.recs.length c]]) (.cons _ (List.Sublist.refl _))) ?_
      (intros; try refine go_st ?_); refine go_r 100 101 (by decide) ?_; (refine sJ c6r17.eq_1 ?_; try with_reducible exact True.intro)
      (intros; try refine go_st ?_)
      refine go_l ⟨⟨k + 1, by omega, (eJ @hw), eE, eE, eE, rfl⟩, ?_⟩
      (refine sJ @hw ?_; try with_reducible exact True.intro); omega
    · refine go_exit ?_
      (refine sI ?_; try with_reducible exact True.intro)
      (repeat first | (with_reducible intro _) | refine go_skip ?_ | refine go_b ?_)
      (intros; try refine go_st ?_); refine go_r 101 104 (by decide) ?_; (refine sJ c6r18.eq_1 ?_; try with_reducible exact True.intro)
      refine (hck _ _).mono ?_; rintro _ _ ⟨rfl, rfl⟩; (refine sI ?_; try with_reducible exact True.intro)
      (intros; try refine go_st ?_)
      refine go_ret (retQ_v rfl ?_); simp only [push_cast, Nat.reduceBEq]
end Go.Proofs.Ytdiccicokbbcoaa

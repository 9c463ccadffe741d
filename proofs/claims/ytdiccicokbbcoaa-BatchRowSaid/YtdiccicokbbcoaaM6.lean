/- Parts of a proof, 7 texts in one file. No condition. -/
import Derived.Test.YtdiccicokbbcoaaM1
import Derived.Test.YtdiccicokbbcoaaM2
import Derived.Test.YtdiccicokbbcoaaM3
import Derived.Test.YtdiccicokbbcoaaM4
import Derived.Test.YtdiccicokbbcoaaM5

/- Bytes, part 36 of a proof: the law of a batch moved, walked. No condition. -/
set_option linter.unusedSimpArgs false
set_option linter.unusedVariables false
namespace Go.Proofs.Ytdiccicokbbcoaa
open Go Go.Kx
theorem F5 : Fun Try.prog 5 77 v5 c5 o5 := Fun.mk' Try.func5 Try.ntmps5 (by kernel_rfl) (by kernel_rfl) s5 q5
theorem ownBE_sl {P : Program} {f : FuncId} {args : Array Value} {G : Nat → Option Obj} {p : Batch × Int} (hf : FnO P f args G [] (fun _ L' r => OwnBE p L' r)) :
    FnO P f args G [] (fun _ L' r => ∃ A c ys, r = .tuple #[.agg (cellH p.1 (.slice A p.1.recs.length c)).toArray, .int .i64 p.2] ∧ (p.1.recs.length ≤ c ∧ c ≤ maxLen) ∧ Cells RR 5 p.1.recs ys ∧ (I64 p.1.base ∧ I64 p.1.last ∧ I64 p.1.src ∧ I64 p.1.epoch ∧ I64 p.1.pid ∧ I64 p.1.gen ∧ I64 p.1.seq ∧ I64 p.1.ctl) ∧ L' = [.row (.slice A p.1.recs.length c) 39 5 p.1.recs.length ys]) := fun L D =>
  (hf L D).gx fun v h' ⟨G', L', he, hg, cs', hr, u, ys, hcs, hL, hc, hi⟩ => by
    subst he hL hr hcs
    exact (gx_knowS (.head _)).mono fun h' ⟨h1, A, c, h2, h3, h4⟩ => ⟨G', _, h1, hg, A, c, ys, by rw [h2], ⟨h3, h4⟩, hc, hi, by rw [h2]⟩
set_option maxHeartbeats 2000000 in
theorem BatchMoves_ok (x y : Batch) (base : Int) (cs ds : List Value) (G : Nat → Option Obj) (hx : BE G x cs) (hy : BE G y ds) (ha : I64 base) : FnS Try.prog 5 #[.agg cs.toArray, .agg ds.toArray, .int .i64 base] G (.bool true) := by
  have h1 := Few_ok x cs G hx
  have h2 := Few_ok y ds G hy
  have hx0 := hx
  have hy0 := hy
  have hi := hx
  obtain ⟨A, c, rfl, -⟩ := hx
  obtain ⟨B, d, rfl, -⟩ := hy
  obtain ⟨-, -, -, -, i1, i2, i3, i4, i5, i6, i7, i8⟩ := hi
  have hm1 := fun G' (hg : Gle G G') => Moved_ok x base _ G' (BE.le hg hx0) ha
  have hm2 := fun G' (hg : Gle G G') => RMoved_ok x base _ G' (BE.le hg hx0) ha
  generalize movedB x base = p at hm1 hm2
  obtain ⟨X, ex⟩ := p
  refine F5.fnS (by simp) (go_of ?_)
  unfold c5
  unfold cellH at h1 h2 hx0 hy0 hm1 hm2 ⊢
  (intros; try refine go_st ?_); refine go_r 0 0 (by decide) ?_; (refine sJ c5r0.eq_1 ?_; try with_reducible exact True.intro)
  (intros; try refine go_st ?_); refine go_r 14 15 (by decide) ?_; (refine sJ c5r1.eq_1 ?_; try with_reducible exact True.intro)
  refine (live_ok _ _ _).mono ?_; rintro _ _ ⟨rfl, rfl⟩; (refine sI ?_; try with_reducible exact True.intro)
  (intros; try refine go_st ?_); refine go_c ?_; (refine sI ?_; try with_reducible exact True.intro)
  (repeat first | (with_reducible intro _) | refine go_skip ?_ | refine go_b ?_)
  (intros; try refine go_st ?_); refine go_r 16 23 (by decide) ?_; (refine sJ c5r3.eq_1 ?_; try with_reducible exact True.intro)
  refine (h1 _ _).mono ?_
  rintro r h' ⟨⟨b1, rfl, hb1⟩, rfl⟩
  cases b1
  · (refine sI ?_; try with_reducible exact True.intro)
    (intros; try refine go_st ?_); refine go_c ?_; (refine sI ?_; try with_reducible exact True.intro)
    (intros; try refine go_st ?_); refine go_r 0 0 (by decide) ?_; (refine sJ c5r4.eq_1 ?_; try with_reducible exact True.intro)
    (intros; try refine go_st ?_)
    refine go_ret (retQ_v rfl ?_); simp only [push_cast, Nat.reduceBEq]
  have hb1 := hb1 rfl
  (refine sI ?_; try with_reducible exact True.intro)
  refine (h2 _ _).mono ?_
  rintro r h' ⟨⟨b2, rfl, hb2⟩, rfl⟩
  cases b2
  · (refine sI ?_; try with_reducible exact True.intro)
    (intros; try refine go_st ?_); refine go_c ?_; (refine sI ?_; try with_reducible exact True.intro)
    (intros; try refine go_st ?_); refine go_r 0 0 (by decide) ?_; (refine sJ c5r4.eq_1 ?_; try with_reducible exact True.intro)
    (intros; try refine go_st ?_)
    refine go_ret (retQ_v rfl ?_); simp only [push_cast, Nat.reduceBEq]
  (refine sI ?_; try with_reducible exact True.intro)
  (intros; try refine go_st ?_); refine go_c ?_; (refine sI ?_; try with_reducible exact True.intro)
  (repeat first | (with_reducible intro _) | refine go_skip ?_ | refine go_b ?_)
  (intros; try refine go_st ?_); refine go_r 24 26 (by decide) ?_; (refine sJ c5r5.eq_1 ?_; try with_reducible exact True.intro)
  refine (ownBt_sl (CopyB_ok x _ G hx0 (by omega)) _ []).mono ?_
  rintro r h' ⟨G1, L', rfl, hg1, A1, c1, zc1, rfl, ⟨hc1, hc1'⟩, hzc1, rfl⟩
  unfold cellH
  (refine sI ?_; try with_reducible exact True.intro)
  (repeat (with_reducible intro _)); refine go_seq ?_
  refine go_gx (gx_slv_at [_] _ (by decide) hzc1) ?_
  rintro h' ⟨G2, rfl, hg2, hv2⟩
  have hwas : BE G2 x [.int .i64 x.base, .int .i64 x.last, .int .i64 x.src, .int .i64 x.epoch, .int .i64 x.pid, .int .i64 x.gen, .int .i64 x.seq, .bool x.txn, .int .i64 x.ctl, .slice A1 x.recs.length c1] := by
    obtain ⟨A2, c2, hv, h1, h2, h3⟩ := hv2
    injection hv with e1 e2 e3
    subst e1 e3
    exact ⟨A1, c1, rfl, ⟨h1, h2, h3⟩, i1, i2, i3, i4, i5, i6, i7, i8⟩
  (intros; try refine go_st ?_); refine go_r 26 32 (by decide) ?_; (refine sJ c5r6.eq_1 ?_; try with_reducible exact True.intro)
  refine (ownBE_sl (hm1 G2 (hg1.trans hg2)) _ []).mono ?_
  rintro r h' ⟨G3, L', rfl, hg3, A3, c3, zc3, rfl, ⟨hc3, hc3'⟩, hzc3, hj, rfl⟩
  unfold cellH
  (refine sI ?_; try with_reducible exact True.intro)
  (repeat (with_reducible intro _))
  (intros; try refine go_st ?_); refine go_r 32 38 (by decide) ?_; (refine sJ c5r7.eq_1 ?_; try with_reducible exact True.intro)
  refine (ownBE_sl (hm2 G3 (hg1.trans (hg2.trans hg3))) _ []).mono ?_
  rintro r h' ⟨G4, L', rfl, hg4, A4, c4, zc4, rfl, ⟨hc4, hc4'⟩, hzc4, -, rfl⟩
  unfold cellH
  (refine sI ?_; try with_reducible exact True.intro)
  (repeat (with_reducible intro _)); refine go_seq ?_
  refine go_gx (gx_slv_at [_] _ (by decide) hzc4) ?_
  rintro h' ⟨G5, rfl, hg5, hv5⟩
  have hyb : BE G5 X [.int .i64 X.base, .int .i64 X.last, .int .i64 X.src, .int .i64 X.epoch, .int .i64 X.pid, .int .i64 X.gen, .int .i64 X.seq, .bool X.txn, .int .i64 X.ctl, .slice A4 X.recs.length c4] := by
    obtain ⟨A2, c2, hv, h1, h2, h3⟩ := hv5
    injection hv with e1 e2 e3
    subst e1 e3
    obtain ⟨j1, j2, j3, j4, j5, j6, j7, j8⟩ := hj
    exact ⟨A4, c4, rfl, ⟨h1, h2, h3⟩, j1, j2, j3, j4, j5, j6, j7, j8⟩
  have hc3 : X.recs.length ≤ c3 := hc3
  have hbb : (decide (x = y) == decide (x = y)) = true := by simp
  have g05 : Gle G G5 := hg1.trans (hg2.trans (hg3.trans (hg4.trans hg5)))
  have g25 : Gle G2 G5 := hg3.trans (hg4.trans hg5)
  refine go_ghost (ghost_perm (L' := [.row (.slice A3 X.recs.length c3) 39 5 X.recs.length zc3, .reg 10 [.int .i64 X.base, .int .i64 X.last, .int .i64 X.src, .int .i64 X.epoch, .int .i64 X.pid, .int .i64 X.gen, .int .i64 X.seq, .bool X.txn, .int .i64 X.ctl, .slice A4 X.recs.length c4], .reg 8 [.int .i64 X.base, .int .i64 X.last, .int .i64 X.src, .int .i64 X.epoch, .int .i64 X.pid, .int .i64 X.gen, .int .i64 X.seq, .bool X.txn, .int .i64 X.ctl, .slice A3 X.recs.length c3], .reg 7 [.int .i64 x.base, .int .i64 x.last, .int .i64 x.src, .int .i64 x.epoch, .int .i64 x.pid, .int .i64 x.gen, .int .i64 x.seq, .bool x.txn, .int .i64 x.ctl, .slice A1 x.recs.length c1], .reg 4 [.int .i64 y.base, .int .i64 y.last, .int .i64 y.src, .int .i64 y.epoch, .int .i64 y.pid, .int .i64 y.gen, .int .i64 y.seq, .bool y.txn, .int .i64 y.ctl, .slice B y.recs.length d], .reg 3 [.int .i64 x.base, .int .i64 x.last, .int .i64 x.src, .int .i64 x.epoch, .int .i64 x.pid, .int .i64 x.gen, .int .i64 x.seq, .bool x.txn, .int .i64 x.ctl, .slice A x.recs.length c]]) (List.perm_middle (l₁ := [_, _]))) ?_
  have hsm : ∀ L D, CallsH Try.prog 24 #[.agg #[.int .i64 X.base, .int .i64 X.last, .int .i64 X.src, .int .i64 X.epoch, .int .i64 X.pid, .int .i64 X.gen, .int .i64 X.seq, .bool X.txn, .int .i64 X.ctl, .slice A3 X.recs.length c3], .agg #[.int .i64 X.base, .int .i64 X.last, .int .i64 X.src, .int .i64 X.epoch, .int .i64 X.pid, .int .i64 X.gen, .int .i64 X.seq, .bool X.txn, .int .i64 X.ctl, .slice A4 X.recs.length c4]] ⟨G5, .row (.slice A3 X.recs.length c3) 39 5 X.recs.length zc3 :: L, D⟩ fun r h' => r = .bool true ∧ h' = ⟨G5, .row (.slice A3 X.recs.length c3) 39 5 X.recs.length zc3 :: L, D⟩ := fun L D =>
    lend1 (E := RR) (xs := X.recs) (R := fun r => r = .bool true) F24.enters (by decide) hzc3 fun G' hg hx => by
      obtain ⟨A2, c2, hv, h1, h2, h3⟩ := hx
      injection hv with e1 e2 e3
      subst e1 e3
      obtain ⟨j1, j2, j3, j4, j5, j6, j7, j8⟩ := hj
      have := RSame_ok X X [.int .i64 X.base, .int .i64 X.last, .int .i64 X.src, .int .i64 X.epoch, .int .i64 X.pid, .int .i64 X.gen, .int .i64 X.seq, .bool X.txn, .int .i64 X.ctl, .slice A3 X.recs.length c3] [.int .i64 X.base, .int .i64 X.last, .int .i64 X.src, .int .i64 X.epoch, .int .i64 X.pid, .int .i64 X.gen, .int .i64 X.seq, .bool X.txn, .int .i64 X.ctl, .slice A4 X.recs.length c4] G' ⟨A3, c3, rfl, ⟨h1, h2, h3⟩, j1, j2, j3, j4, j5, j6, j7, j8⟩ (BE.le hg hyb)
      rw [decide_eq_true rfl] at this
      exact this _ _
  (intros; try refine go_st ?_); refine go_x _ (List.Sublist.refl _) (by decide) ?_; (refine sJ c5r8.eq_1 ?_; try with_reducible exact True.intro)
  refine (hsm _ _).mono ?_; rintro _ _ ⟨rfl, rfl⟩; (refine sI ?_; try with_reducible exact True.intro)
  refine (Same_ok x y _ _ G5 (BE.le g05 hx0) (BE.le g05 hy0) _ _).mono ?_; rintro _ _ ⟨rfl, rfl⟩; (refine sI ?_; try with_reducible exact True.intro)
  refine (RSame_ok x y _ _ G5 (BE.le g05 hx0) (BE.le g05 hy0) _ _).mono ?_; rintro _ _ ⟨rfl, rfl⟩; (refine sI ?_; try with_reducible exact True.intro)
  (repeat (with_reducible intro _)); refine go_seq ?_
  refine go_cut (fun e h => e 12 = .bool true ∧ ∃ (zc' : List Value), h = ⟨G5, [.row (.slice A3 X.recs.length c3) 39 5 X.recs.length zc', .reg 10 [.int .i64 X.base, .int .i64 X.last, .int .i64 X.src, .int .i64 X.epoch, .int .i64 X.pid, .int .i64 X.gen, .int .i64 X.seq, .bool X.txn, .int .i64 X.ctl, .slice A4 X.recs.length c4], .reg 8 [.int .i64 X.base, .int .i64 X.last, .int .i64 X.src, .int .i64 X.epoch, .int .i64 X.pid, .int .i64 X.gen, .int .i64 X.seq, .bool X.txn, .int .i64 X.ctl, .slice A3 X.recs.length c3], .reg 7 [.int .i64 x.base, .int .i64 x.last, .int .i64 x.src, .int .i64 x.epoch, .int .i64 x.pid, .int .i64 x.gen, .int .i64 x.seq, .bool x.txn, .int .i64 x.ctl, .slice A1 x.recs.length c1], .reg 4 [.int .i64 y.base, .int .i64 y.last, .int .i64 y.src, .int .i64 y.epoch, .int .i64 y.pid, .int .i64 y.gen, .int .i64 y.seq, .bool y.txn, .int .i64 y.ctl, .slice B y.recs.length d], .reg 3 [.int .i64 x.base, .int .i64 x.last, .int .i64 x.src, .int .i64 x.epoch, .int .i64 x.pid, .int .i64 x.gen, .int .i64 x.seq, .bool x.txn, .int .i64 x.ctl, .slice A x.recs.length c]], []⟩) ?_ ?_
  · (intros; try refine go_st ?_); refine go_r 56 57 (by decide) ?_; (refine sJ c5r9.eq_1 ?_; try with_reducible exact True.intro)
    (intros; try refine go_st ?_)
    refine go_loop (fun e h => ∃ (k : Nat) (zs : List Rec) (zc' : List Value), (k ≤ X.recs.length ∧ zs.length = X.recs.length ∧ Cells RR 5 zs zc') ∧ e 58 = .int .i64 k ∧ e 57 = .int .i64 X.recs.length ∧ e 12 = .bool true ∧ h = ⟨G5, [.row (.slice A3 X.recs.length c3) 39 5 X.recs.length zc', .reg 10 [.int .i64 X.base, .int .i64 X.last, .int .i64 X.src, .int .i64 X.epoch, .int .i64 X.pid, .int .i64 X.gen, .int .i64 X.seq, .bool X.txn, .int .i64 X.ctl, .slice A4 X.recs.length c4], .reg 8 [.int .i64 X.base, .int .i64 X.last, .int .i64 X.src, .int .i64 X.epoch, .int .i64 X.pid, .int .i64 X.gen, .int .i64 X.seq, .bool X.txn, .int .i64 X.ctl, .slice A3 X.recs.length c3], .reg 7 [.int .i64 x.base, .int .i64 x.last, .int .i64 x.src, .int .i64 x.epoch, .int .i64 x.pid, .int .i64 x.gen, .int .i64 x.seq, .bool x.txn, .int .i64 x.ctl, .slice A1 x.recs.length c1], .reg 4 [.int .i64 y.base, .int .i64 y.last, .int .i64 y.src, .int .i64 y.epoch, .int .i64 y.pid, .int .i64 y.gen, .int .i64 y.seq, .bool y.txn, .int .i64 y.ctl, .slice B y.recs.length d], .reg 3 [.int .i64 x.base, .int .i64 x.last, .int .i64 x.src, .int .i64 x.epoch, .int .i64 x.pid, .int .i64 x.gen, .int .i64 x.seq, .bool x.txn, .int .i64 x.ctl, .slice A x.recs.length c]], []⟩) (fun e h => X.recs.length - iv (e 58)) ?_ ?_
    · exact ⟨0, X.recs, zc3, ⟨Nat.zero_le _, rfl, hzc3⟩, eE, eE, (eJ @hbb), rfl⟩
    · rintro e h ⟨k, zs, zc', ⟨hk, hzl, hcs⟩, e58, e57, e12, rfl⟩
      refine go_keep [12, 57, 58] ?_
      (refine sJ3 @e12 @e57 @e58 ?_; try with_reducible exact True.intro)
      (intros; try refine go_st ?_); refine go_r 0 0 (by decide) ?_; (refine sJ c5r10.eq_1 ?_; try with_reducible exact True.intro)
      (intros; try refine go_st ?_); refine go_c ?_; (refine sI ?_; try with_reducible exact True.intro)
      refine gb (fun ht => ?_) (fun ht => ?_)
      · have ht : k < X.recs.length := by have := of_decide_eq_true ht; omega
        have hw := inc_i k c3 (by omega) hc3'
        obtain ⟨r, hr⟩ : ∃ r, zs[k]? = some r := ⟨zs[k], List.getElem?_eq_getElem (by omega)⟩
        obtain ⟨cs0, hE0, hl0, hcell⟩ := hcs.get hr
        have hv0 := hcell 0 (.int .i64 r.off) (by rw [hE0.1]; rfl)
        rw [Nat.add_zero] at hv0
        have hnew := hcs.setF (o := 0) (us := [.int .i64 (IntKind.i64.wrap (r.off + 1))]) (x' := ⟨IntKind.i64.wrap (r.off + 1), r.key, r.val, r.dead, r.stamp⟩) hr (by simp) (fun cs hE hl => by
          have h1 := hE.1
          subst h1
          exact ⟨rfl, ⟨w64_I64 _, hE.2.1.2⟩, hE.2.2⟩)
        rw [Nat.add_zero] at hnew
        (repeat first | (with_reducible intro _) | refine go_skip ?_ | refine go_b ?_)
        (intros; try refine go_st ?_); refine go_r 60 61 (by decide) ?_; (refine sJ c5r11.eq_1 ?_; try with_reducible exact True.intro)
        (intros; try refine go_st ?_)
        refine go_gx (gx_know (v := .slice A3 X.recs.length c3) (.head _) (by omega)) ?_
        rintro h' ⟨rfl, g, c0, hA, -, -⟩
        cases hA
        (intros; try refine go_st ?_); refine go_r 62 70 (by decide) ?_; (refine sJ c5r12.eq_1 ?_; try with_reducible exact True.intro)
        refine ⟨by omega, _, rfl, ?_⟩
        rw [add_off, add_off, Nat.zero_add]
        refine ⟨_, ldN_row (.head _) (by simpa using hv0), ?_⟩
        (refine sJ @Nat.zero_add ?_; try with_reducible exact True.intro)
        refine ⟨by omega, _, rfl, ?_⟩
        rw [add_off, add_off, Nat.zero_add]
        refine stX_row [] [_, _, _, _, _] rfl (by have := hcs.len; simp at this ⊢; omega) ⟨rfl, rfl⟩ ?_
        (refine sI ?_; try with_reducible exact True.intro)
        (intros; try refine go_st ?_); refine go_r 70 71 (by decide) ?_; (refine sJ c5r13.eq_1 ?_; try with_reducible exact True.intro)
        (intros; try refine go_st ?_)
        refine go_l ⟨⟨k + 1, _, _, ⟨by omega, by simpa using hzl, hnew⟩, (eJ @hw), eE, eE, rfl⟩, ?_⟩
        (refine sJ @hw ?_; try with_reducible exact True.intro); omega
      · refine go_exit ?_
        (refine sI ?_; try with_reducible exact True.intro)
        exact go_l ⟨eE, zc', rfl⟩
  rintro e h ⟨e12, zc', rfl⟩
  refine go_keep [12] ?_
  (refine sJ @e12 ?_; try with_reducible exact True.intro)
  (intros; try refine go_st ?_); refine go_r 71 77 (by decide) ?_; (refine sJ c5r14.eq_1 ?_; try with_reducible exact True.intro)
  refine (RSame_ok x x _ _ G5 (BE.le g05 hx0) (BE.le g25 hwas) _ _).mono ?_; rintro _ _ ⟨rfl, rfl⟩; (refine sI ?_; try with_reducible exact True.intro)
  (intros; try refine go_st ?_)
  refine go_ret (retQ_v rfl ?_); simp only [push_cast, Nat.reduceBEq]
end Go.Proofs.Ytdiccicokbbcoaa

/- Bytes, part 37 of a proof: the law of a batch moved there and back. No condition. -/
set_option linter.unusedSimpArgs false
set_option linter.unusedVariables false
namespace Go.Proofs.Ytdiccicokbbcoaa
open Go Go.Kx
theorem F6 : Fun Try.prog 6 104 v6 c6 o6 := Fun.mk' Try.func6 Try.ntmps6 (by kernel_rfl) (by kernel_rfl) s6 q6
theorem mov_mov (x : Batch) (base : Int) : movB (movB x base) x.base = x := by
  have h : ∀ r : Rec, movR (x.base - base) (movR (base - x.base) r) = r := fun r => by
    unfold movR
    rw [show r.off + (base - x.base) + (x.base - base) = r.off by omega]
  unfold movB
  simp only [List.map_map]
  rw [show x.last + (base - x.base) + (x.base - base) = x.last by omega, show (movR (x.base - base) ∘ movR (base - x.base)) = id from funext h, List.map_id]
theorem moved_ok {x : Batch} {base : Int} (h : (movedB x base).2 = 0) : movedB x base = (movB x base, 0) ∧ rng 1099511627776 base = true ∧ errB x = 0 ∧ errB (movB x base) = 0 := by
  unfold movedB at h ⊢
  split at h <;> rename_i h1
  · split at h <;> rename_i h2
    · split at h <;> rename_i h3
      · rw [if_pos h1, if_pos h2, if_pos h3]; exact ⟨rfl, h1, h2, h3⟩
      · exact absurd h h3
    · exact absurd h h2
  · exact absurd h (by decide)
theorem moved_none {x : Batch} {base : Int} (h : (movedB x base).2 ≠ 0) : (movedB x base).1 = noneB := by
  unfold movedB at h ⊢
  split at h <;> rename_i h1
  · split at h <;> rename_i h2
    · split at h <;> rename_i h3
      · exact absurd rfl h
      · rw [if_pos h1, if_pos h2, if_neg h3]
    · rw [if_pos h1, if_neg h2]
  · rw [if_neg h1]
theorem moved_back {x : Batch} {base : Int} (h : (movedB x base).2 = 0) : movedB (movB x base) x.base = (x, 0) := by
  obtain ⟨-, h1, h2, h3⟩ := moved_ok h
  obtain ⟨hf, -⟩ := errB_ok h2
  obtain ⟨⟨f1, f2, -⟩, -⟩ := hf
  unfold movedB
  rw [if_pos (by simpa [rng] using f1), if_pos h3, mov_mov, if_pos h2]
theorem noneB_BE (G : Nat → Option Obj) : BE G noneB [.int .i64 0, .int .i64 0, .int .i64 0, .int .i64 0, .int .i64 0, .int .i64 0, .int .i64 0, .bool false, .int .i64 0, .slice none 0 0] := ⟨none, 0, rfl, ⟨Nat.le_refl _, Nat.zero_le _, fun i x hx => by simp [noneB] at hx⟩, by decide, by decide, by decide, by decide, by decide, by decide, by decide, by decide⟩
set_option maxHeartbeats 2000000 in
theorem BatchThere_ok (x : Batch) (base : Int) (cs : List Value) (G : Nat → Option Obj) (hx : BE G x cs) (ha : I64 base) : FnS Try.prog 6 #[.agg cs.toArray, .int .i64 base] G (.bool true) := by
  have h1 := Few_ok x cs G hx
  have hx0 := hx
  have hi := hx
  obtain ⟨A, c, rfl, hxv⟩ := hx
  obtain ⟨⟨hc, hm, hA⟩, i1, i2, i3, i4, i5, i6, i7, i8⟩ := hxv
  have hm1 := Moved_ok x base _ G hx0 ha
  refine F6.fnS (by simp) (go_of ?_)
  unfold c6
  unfold cellH at h1 hx0 hm1 ⊢
  (intros; try refine go_st ?_); refine go_r 0 0 (by decide) ?_; (refine sJ c6r0.eq_1 ?_; try with_reducible exact True.intro)
  (intros; try refine go_st ?_); refine go_r 11 12 (by decide) ?_; (refine sJ c6r1.eq_1 ?_; try with_reducible exact True.intro)
  refine (live_ok _ _ _).mono ?_; rintro _ _ ⟨rfl, rfl⟩; (refine sI ?_; try with_reducible exact True.intro)
  (intros; try refine go_st ?_); refine go_c ?_; (refine sI ?_; try with_reducible exact True.intro)
  (repeat first | (with_reducible intro _) | refine go_skip ?_ | refine go_b ?_)
  (intros; try refine go_st ?_); refine go_r 13 15 (by decide) ?_; (refine sJ c6r3.eq_1 ?_; try with_reducible exact True.intro)
  refine (h1 _ _).mono ?_
  rintro r h' ⟨⟨b1, rfl, hb1⟩, rfl⟩
  (refine sI ?_; try with_reducible exact True.intro)
  (intros; try refine go_st ?_); refine go_c ?_; (refine sI ?_; try with_reducible exact True.intro)
  refine gb (fun k1 => ?_) (fun k1 => ?_)
  · (intros; try refine go_st ?_); refine go_r 0 0 (by decide) ?_; (refine sJ c6r4.eq_1 ?_; try with_reducible exact True.intro)
    (intros; try refine go_st ?_)
    refine go_ret (retQ_v rfl ?_); simp only [push_cast, Nat.reduceBEq]
  have hb1 := hb1 (by simpa using k1)
  (repeat first | (with_reducible intro _) | refine go_skip ?_ | refine go_b ?_)
  (intros; try refine go_st ?_); refine go_r 16 22 (by decide) ?_; (refine sJ c6r5.eq_1 ?_; try with_reducible exact True.intro)
  refine (ownBE_sl hm1 _ []).mono ?_
  have hno := fun h => moved_none (x := x) (base := base) h
  have hok := fun h => moved_ok (x := x) (base := base) h
  have hbk := fun h => moved_back (x := x) (base := base) h
  generalize movedB x base = p at hno hok hbk
  obtain ⟨X, ex⟩ := p
  rintro r h' ⟨G1, L', rfl, hg1, A1, c1, zc1, rfl, ⟨hc1, hc1'⟩, hzc1, hj, rfl⟩
  unfold cellH
  (refine sI ?_; try with_reducible exact True.intro)
  (repeat (with_reducible intro _)); refine go_seq ?_
  refine go_gx (gx_slv_at [_] _ (by decide) hzc1) ?_
  rintro h' ⟨G2, rfl, hg2, hv2⟩
  have hX : BE G2 X [.int .i64 X.base, .int .i64 X.last, .int .i64 X.src, .int .i64 X.epoch, .int .i64 X.pid, .int .i64 X.gen, .int .i64 X.seq, .bool X.txn, .int .i64 X.ctl, .slice A1 X.recs.length c1] := by
    obtain ⟨A2, c2, hv, h1, h2, h3⟩ := hv2
    injection hv with e1 e2 e3
    subst e1 e3
    obtain ⟨j1, j2, j3, j4, j5, j6, j7, j8⟩ := hj
    exact ⟨A1, c1, rfl, ⟨h1, h2, h3⟩, j1, j2, j3, j4, j5, j6, j7, j8⟩
  have hX0 := hX
  (intros; try refine go_st ?_); refine go_r 22 23 (by decide) ?_; (refine sJ c6r6.eq_1 ?_; try with_reducible exact True.intro)
  (intros; try refine go_st ?_); refine go_c ?_; (refine sI ?_; try with_reducible exact True.intro)
  refine gb (fun k2 => ?_) (fun k2 => ?_)
  · have k2 : ex ≠ 0 := of_decide_eq_true k2
    have hX1 : X = noneB := hno k2
    (intros; try refine go_st ?_); refine go_r 24 27 (by decide) ?_; (refine sJ c6r7.eq_1 ?_; try with_reducible exact True.intro)
    refine (Same_ok X noneB _ _ G2 hX (noneB_BE G2) _ _).mono ?_; rintro _ _ ⟨rfl, rfl⟩; (refine sI ?_; try with_reducible exact True.intro)
    (intros; try refine go_st ?_)
    refine go_ret (retQ_v rfl ?_); simp only [push_cast, Nat.reduceBEq]
    rw [decide_eq_true hX1]
  have k2 : ex = 0 := by simpa using k2
  subst k2
  obtain ⟨hp, hrb, hex, hem⟩ := hok rfl
  have hbk := hbk rfl
  have hX1 : X = movB x base := (Prod.mk.injEq _ _ _ _ ▸ hp).1
  have hb : movedB X x.base = (x, 0) := by rw [hX1]; exact hbk
  have hm2 := Moved_ok X x.base _ G2 hX0 i1
  rw [hb] at hm2
  have hXb : X.base = base := by rw [hX1]; rfl
  have hXs : X.src = x.src := by rw [hX1]; rfl
  have hXr : X.recs = x.recs.map (movR (base - x.base)) := by rw [hX1]; rfl
  have hXn : X.recs.length = x.recs.length := by rw [hXr]; simp
  have hXl : X.last - X.base = x.last - x.base := by rw [hX1]; show x.last + (base - x.base) - base = _; omega
  (repeat first | (with_reducible intro _) | refine go_skip ?_ | refine go_b ?_)
  (intros; try refine go_st ?_); refine go_r 27 34 (by decide) ?_; (refine sJ c6r8.eq_1 ?_; try with_reducible exact True.intro)
  refine (ownBE_sl hm2 _ []).mono ?_
  rintro r h' ⟨G3, L', rfl, hg3, A3, c3, zc3, rfl, ⟨hc3, hc3'⟩, hzc3, -, rfl⟩
  unfold cellH
  (refine sI ?_; try with_reducible exact True.intro)
  (repeat (with_reducible intro _)); refine go_seq ?_
  refine go_gx (gx_slv_at [_] _ (by decide) hzc3) ?_
  rintro h' ⟨G4, rfl, hg4, hv4⟩
  have hY : BE G4 x [.int .i64 x.base, .int .i64 x.last, .int .i64 x.src, .int .i64 x.epoch, .int .i64 x.pid, .int .i64 x.gen, .int .i64 x.seq, .bool x.txn, .int .i64 x.ctl, .slice A3 x.recs.length c3] := by
    obtain ⟨A2, c2, hv, h1, h2, h3⟩ := hv4
    injection hv with e1 e2 e3
    subst e1 e3
    exact ⟨A3, c3, rfl, ⟨h1, h2, h3⟩, i1, i2, i3, i4, i5, i6, i7, i8⟩
  have g04 : Gle G G4 := hg1.trans (hg2.trans (hg3.trans hg4))
  have hz : decide ((0 : Int) ≠ 0) = false := by decide
  have hz1 : decide (X.base ≠ base) = false := decide_eq_false fun h => h hXb
  have hz2 : decide (IntKind.i64.wrap (X.last - X.base) ≠ IntKind.i64.wrap (x.last - x.base)) = false := decide_eq_false fun h => h (by rw [hXl])
  have hz3 : decide (X.src ≠ x.src) = false := decide_eq_false fun h => h hXs
  have hz4 : decide ((X.recs.length : Int) ≠ (x.recs.length : Int)) = false := decide_eq_false fun h => h (by rw [hXn])
  (intros; try refine go_st ?_); refine go_r 34 76 (by decide) ?_; (refine sJ2 c6r9.eq_1 @hz ?_; try with_reducible exact True.intro)
  refine (Same_ok x x _ _ G4 hY (BE.le g04 hx0) _ _).mono ?_; rintro _ _ ⟨rfl, rfl⟩; (refine sJ4 @hz1 @hz2 @hz3 @hz4 ?_; try with_reducible exact True.intro)
  (intros; try refine go_st ?_); refine go_c ?_; (refine sI ?_; try with_reducible exact True.intro)
  (repeat first | (with_reducible intro _) | refine go_skip ?_ | refine go_b ?_)
  (intros; try refine go_st ?_); refine go_r 0 0 (by decide) ?_; (refine sJ c6r11.eq_1 ?_; try with_reducible exact True.intro)
  (intros; try refine go_st ?_)
  have hc1 : X.recs.length ≤ c1 := hc1
  have hXA : SlA G4 RR 5 A1 X.recs := by
    obtain ⟨A2, c2, hv, h1, h2, h3⟩ := hv2
    injection hv with e1
    subst e1
    exact h3.le (hg3.trans hg4) (fun _ _ h => h)
  have hxA : SlA G4 RR 5 A x.recs := hA.le g04 (fun _ _ h => h)
  obtain ⟨hf, -⟩ := errB_ok hex
  obtain ⟨⟨f1, -⟩, -⟩ := hf
  simp [rng] at f1 hrb
  have w1 : IntKind.i64.wrap (x.base - base) = x.base - base := by rw [w64_id] <;> omega
  have hck := BCheck_ok X _ G4 (BE.le (hg3.trans hg4) hX0)
  rw [hX1, hem, ← hX1] at hck
  refine go_loop (fun e h => ∃ k : Nat, k ≤ X.recs.length ∧ e 80 = .int .i64 k ∧ e 79 = .int .i64 X.recs.length ∧ e 78 = .slice A1 X.recs.length c1 ∧ e 1 = .int .i64 base ∧ h = ⟨G4, [.reg 7 [.int .i64 x.base, .int .i64 x.last, .int .i64 x.src, .int .i64 x.epoch, .int .i64 x.pid, .int .i64 x.gen, .int .i64 x.seq, .bool x.txn, .int .i64 x.ctl, .slice A3 x.recs.length c3], .reg 5 [.int .i64 X.base, .int .i64 X.last, .int .i64 X.src, .int .i64 X.epoch, .int .i64 X.pid, .int .i64 X.gen, .int .i64 X.seq, .bool X.txn, .int .i64 X.ctl, .slice A1 X.recs.length c1], .reg 2 [.int .i64 x.base, .int .i64 x.last, .int .i64 x.src, .int .i64 x.epoch, .int .i64 x.pid, .int .i64 x.gen, .int .i64 x.seq, .bool x.txn, .int .i64 x.ctl, .slice A x.recs.length c]], []⟩) (fun e h => X.recs.length - iv (e 80)) ?_ ?_
  · exact ⟨0, Nat.zero_le _, eE, eE, eE, eE, rfl⟩
  · rintro e h ⟨k, hk, e80, e79, e78, e1, rfl⟩
    refine go_keep [1, 78, 79, 80] ?_
    (refine sJ4 @e1 @e78 @e79 @e80 ?_; try with_reducible exact True.intro)
    (intros; try refine go_st ?_); refine go_r 0 0 (by decide) ?_; (refine sJ c6r12.eq_1 ?_; try with_reducible exact True.intro)
    (intros; try refine go_st ?_); refine go_c ?_; (refine sI ?_; try with_reducible exact True.intro)
    refine gb (fun ht => ?_) (fun ht => ?_)
    · have ht : k < X.recs.length := by have := of_decide_eq_true ht; omega
      have hw := inc_i k c1 (by omega) hc1'
      obtain ⟨r, hr⟩ : ∃ r, x.recs[k]? = some r := ⟨x.recs[k], List.getElem?_eq_getElem (by omega)⟩
      have hXk : X.recs[k]? = some (movR (base - x.base) r) := by rw [hXr, List.getElem?_map, hr]; rfl
      obtain ⟨-, cs0, -, -, hRR, -⟩ := hxA k r hr
      have hio : I64 r.off := hRR.2.1.1
      have w2 : IntKind.i64.wrap (r.off + (base - x.base) + (x.base - base)) = r.off := by
        rw [show r.off + (base - x.base) + (x.base - base) = r.off by omega, w64_id] <;> (unfold I64 at hio; omega)
      have heq := eqCR r r
      rw [decide_eq_true rfl] at heq
      (repeat first | (with_reducible intro _) | refine go_skip ?_ | refine go_b ?_)
      (intros; try refine go_st ?_); refine go_r 82 85 (by decide) ?_; (refine sJ c6r13.eq_1 ?_; try with_reducible exact True.intro)
      refine hXA.x_ld hXk rfl rfl ?_
      rintro a1 ha1 cs ⟨rfl, -⟩
      unfold cellR movR
      (refine sI ?_; try with_reducible exact True.intro)
      (intros; try refine go_st ?_); refine go_r 86 92 (by decide) ?_; (refine sJ3 c6r14.eq_1 @w1 @w2 ?_; try with_reducible exact True.intro)
      (intros; try refine go_st ?_); refine go_q 93 99 (by decide) ?_; (refine sJ c6r15.eq_1 ?_; try with_reducible exact True.intro)
      refine hxA.y_ld hr rfl rfl ?_
      rintro a2 ha2 cs ⟨rfl, -⟩
      unfold cellR at heq ⊢
      (refine sJ @heq ?_; try with_reducible exact True.intro)
      (intros; try refine go_st ?_); refine go_c ?_; (refine sI ?_; try with_reducible exact True.intro)
      (repeat first | (with_reducible intro _) | refine go_skip ?_ | refine go_b ?_)
      refine go_ghost (ghost_sub (L' := [.reg 7 [.int .i64 x.base, .int .i64 x.last, .int .i64 x.src, .int .i64 x.epoch, .int .i64 x.pid, .int .i64 x.gen, .int .i64 x.seq, .bool x.txn, .int .i64 x.ctl, .slice A3 x.recs.length c3], .reg 5 [.int .i64 X.base, .int .i64 X.last, .int .i64 X.src, .int .i64 X.epoch, .int .i64 X.pid, .int .i64 X.gen, .int .i64 X.seq, .bool X.txn, .int .i64 X.ctl, .slice A1 X.recs.length c1], .reg 2 [.int .i64 x.base, .int .i64 x.last, .int .i64 x.src, .int .i64 x.epoch, .int .i64 x.pid, .int .i64 x.gen, .int .i64 x.seq, .bool x.txn, .int .i64 x.ctl, .slice A x.recs.length c]]) (.cons _ (List.Sublist.refl _))) ?_
      (intros; try refine go_st ?_); refine go_r 100 101 (by decide) ?_; (refine sJ c6r17.eq_1 ?_; try with_reducible exact True.intro)
      (intros; try refine go_st ?_)
      refine go_l ⟨⟨k + 1, by omega, (eJ @hw), eE, eE, eE, rfl⟩, ?_⟩
      (refine sJ @hw ?_; try with_reducible exact True.intro); omega
    · refine go_exit ?_
      (refine sI ?_; try with_reducible exact True.intro)
      (repeat first | (with_reducible intro _) | refine go_skip ?_ | refine go_b ?_)
      (intros; try refine go_st ?_); refine go_r 101 104 (by decide) ?_; (refine sJ c6r18.eq_1 ?_; try with_reducible exact True.intro)
      refine (hck _ _).mono ?_; rintro _ _ ⟨rfl, rfl⟩; (refine sI ?_; try with_reducible exact True.intro)
      (intros; try refine go_st ?_)
      refine go_ret (retQ_v rfl ?_); simp only [push_cast, Nat.reduceBEq]
end Go.Proofs.Ytdiccicokbbcoaa

/- Bytes, part 38 of a proof: few batches, and each short. No condition. -/
set_option linter.unusedSimpArgs false
set_option linter.unusedVariables false
namespace Go.Proofs.Ytdiccicokbbcoaa
open Go Go.Kx
theorem F29 : Fun Try.prog 29 21 v29 c29 o29 := Fun.mk' Try.func29 Try.ntmps29 (by kernel_rfl) (by kernel_rfl) s29 q29
theorem FewAll_ok (l : List Batch) (n : Int) (v : Value) (G : Nat → Option Obj) (hl : SlV G (BE G) 10 v l) : FnE Try.prog 29 #[v, .int .i64 n] G (fun r => ∃ b, r = .bool b ∧ (b = true → (l.length : Int) ≤ n ∧ ∀ x ∈ l, x.recs.length ≤ 100)) := by
  obtain ⟨A, c, rfl, hc, hm, hA⟩ := hl
  refine F29.fnE (by simp) (go_of ?_)
  unfold c29
  (intros; try refine go_st ?_); refine go_r 0 0 (by decide) ?_; (refine sJ c29r0.eq_1 ?_; try with_reducible exact True.intro)
  (intros; try refine go_st ?_); refine go_r 0 0 (by decide) ?_; (refine sJ c29r1.eq_1 ?_; try with_reducible exact True.intro)
  (intros; try refine go_st ?_)
  refine go_loop (fun e h => ∃ k : Nat, (k ≤ l.length ∧ ∀ x ∈ l.take k, x.recs.length ≤ 100) ∧ e 9 = .int .i64 k ∧ e 8 = .int .i64 l.length ∧ e 7 = .slice A l.length c ∧ e 0 = .slice A l.length c ∧ e 1 = .int .i64 n ∧ h = ⟨G, [], []⟩) (fun e h => l.length - iv (e 9)) ?_ ?_
  · exact ⟨0, ⟨Nat.zero_le _, by simp⟩, eE, eE, eE, eE, eE, rfl⟩
  · rintro e h ⟨k, ⟨hk, hall⟩, e9, e8, e7, e0, e1, rfl⟩
    refine go_keep [0, 1, 7, 8, 9] ?_
    (refine sJ5 @e0 @e1 @e7 @e8 @e9 ?_; try with_reducible exact True.intro)
    (intros; try refine go_st ?_); refine go_r 0 0 (by decide) ?_; (refine sJ c29r2.eq_1 ?_; try with_reducible exact True.intro)
    (intros; try refine go_st ?_); refine go_c ?_; (refine sI ?_; try with_reducible exact True.intro)
    refine gb (fun ht => ?_) (fun ht => ?_)
    · have hkl : k < l.length := by simpa using ht
      have hw3 := inc_i k c (by omega) hm
      obtain ⟨x, hx⟩ : ∃ x, l[k]? = some x := ⟨l[k], List.getElem?_eq_getElem (by omega)⟩
      (repeat first | (with_reducible intro _) | refine go_skip ?_ | refine go_b ?_)
      (intros; try refine go_st ?_); refine go_r 11 13 (by decide) ?_; (refine sJ c29r3.eq_1 ?_; try with_reducible exact True.intro)
      refine hA.x_ld hx rfl rfl ?_
      rintro a1 ha1 cs hbe
      have hfew := Few_ok x cs G hbe
      obtain ⟨B, d, rfl, -⟩ := hbe
      unfold cellH at hfew ⊢
      (refine sI ?_; try with_reducible exact True.intro)
      (intros; try refine go_st ?_); refine go_r 13 15 (by decide) ?_; (refine sJ c29r4.eq_1 ?_; try with_reducible exact True.intro)
      refine (hfew _ _).mono ?_
      rintro r h' ⟨⟨b1, rfl, hb1⟩, rfl⟩
      (refine sI ?_; try with_reducible exact True.intro)
      (intros; try refine go_st ?_); refine go_c ?_; (refine sI ?_; try with_reducible exact True.intro)
      refine gb (fun h1 => ?_) (fun h1 => ?_)
      · (intros; try refine go_st ?_); refine go_r 0 0 (by decide) ?_; (refine sJ c29r5.eq_1 ?_; try with_reducible exact True.intro)
        (intros; try refine go_st ?_)
        refine go_ret (retQ_v rfl ?_); simp only [push_cast, Nat.reduceBEq]
        exact ⟨false, rfl, fun h => by cases h⟩
      · have hb1 := hb1 (by simpa using h1)
        (repeat first | (with_reducible intro _) | refine go_skip ?_ | refine go_b ?_)
        refine go_ghost (ghost_sub (L' := []) (.cons _ (List.Sublist.refl _))) ?_
        (intros; try refine go_st ?_); refine go_r 16 17 (by decide) ?_; (refine sJ c29r6.eq_1 ?_; try with_reducible exact True.intro)
        (intros; try refine go_st ?_)
        refine go_l ⟨⟨k + 1, ⟨by omega, fun z hz => ?_⟩, (eJ @hw3), eE, eE, eE, eE, rfl⟩, ?_⟩
        · rw [List.take_add_one, hx] at hz
          rcases List.mem_append.1 hz with h | h
          · exact hall z h
          · simp at h; subst h; exact hb1
        · (refine sJ @hw3 ?_; try with_reducible exact True.intro); omega
    · have ht : k = l.length := by have := of_decide_eq_false ht; omega
      subst ht
      rw [List.take_length] at hall
      refine go_exit ?_
      (refine sI ?_; try with_reducible exact True.intro)
      (repeat first | (with_reducible intro _) | refine go_skip ?_ | refine go_b ?_)
      (intros; try refine go_st ?_); refine go_r 17 21 (by decide) ?_; (refine sJ c29r7.eq_1 ?_; try with_reducible exact True.intro)
      (intros; try refine go_st ?_)
      refine go_ret (retQ_v rfl ?_); simp only [push_cast, Nat.reduceBEq]
      exact ⟨_, rfl, fun h => ⟨of_decide_eq_true h, hall⟩⟩
end Go.Proofs.Ytdiccicokbbcoaa

/- Bytes, part 39 of a proof: batches, one behind the other; plain. No condition. -/
set_option linter.unusedSimpArgs false
set_option linter.unusedVariables false
namespace Go.Proofs.Ytdiccicokbbcoaa
open Go Go.Kx
/-- The batches' bytes, one behind the other. -/
def allB (l : List Batch) : List UInt8 := l.flatMap bytesB
theorem allB_take {l : List Batch} {k : Nat} {x : Batch} (hx : l[k]? = some x) : allB (l.take (k + 1)) = allB (l.take k) ++ bytesB x := by
  unfold allB
  rw [List.take_add_one, hx]
  simp [List.flatMap_append]
theorem allB_snoc (l : List Batch) (x : Batch) : allB (l ++ [x]) = allB l ++ bytesB x := by simp [allB]
theorem allB_drop {l : List Batch} {k : Nat} {x : Batch} (hx : l[k]? = some x) : (allB l).drop (allB (l.take k)).length = bytesB x ++ allB (l.drop (k + 1)) := by
  obtain ⟨hk, he⟩ := List.getElem?_eq_some_iff.1 hx
  have h1 : allB l = allB (l.take k) ++ (bytesB x ++ allB (l.drop (k + 1))) := by
    conv => lhs; rw [← List.take_append_drop k l, List.drop_eq_getElem_cons hk, he]
    simp [allB, List.flatMap_append]
  rw [h1, List.drop_left]
theorem getB_all {l : List Batch} (hl : ∀ x ∈ l, errB x = 0) {k : Nat} {x : Batch} (hx : l[k]? = some x) : getB (allB l) (((allB (l.take k)).length : Nat) : Int) = (x, (((allB (l.take (k + 1))).length : Nat) : Int), 0) := by
  rw [getB_at (hl x (List.mem_of_getElem? hx)) (allB_drop hx), allB_take hx, List.length_append]
theorem allB_len {l : List Batch} (hl : ∀ x ∈ l, errB x = 0) : (allB l).length ≤ 2048 * l.length := by
  induction l with
  | nil => simp [allB]
  | cons x l ih =>
    have h1 := (errB_ok (hl x (List.mem_cons_self ..))).2
    have h2 := ih fun y hy => hl y (List.mem_cons_of_mem _ hy)
    have h3 : (allB (x :: l)).length = (bytesB x).length + (allB l).length := by simp [allB]
    rw [h3, List.length_cons]
    omega
/-- Behind the last byte there is no batch: too short. -/
theorem getB_end (l : List UInt8) : getB l ((l.length : Nat) : Int) = (noneB, 0, 10) := by
  have h1 : getN l ((l.length : Nat) : Int) 4 = (0, 10) := by
    unfold getN
    rw [if_neg (by omega), if_pos (by simp)]
  unfold getB
  rw [h1]
  rfl
end Go.Proofs.Ytdiccicokbbcoaa

/- Bytes, part 42 of a proof: bytes of which one is another one are no batch; plain. No condition. -/
set_option linter.unusedSimpArgs false
set_option linter.unusedVariables false
namespace Go.Proofs.Ytdiccicokbbcoaa
open Go Go.Kx
/-! What stands ahead, taken off. -/
theorem pvB_cancel {n m : Int} {q q' : List UInt8} (hn : I64 n) (hm : I64 m) (h : pvB n ++ q = pvB m ++ q') : n = m ∧ q = q' := by
  have h1 := getV_at (l := pvB n ++ q) (a := 0) hn rfl
  have h2 := getV_at (l := pvB n ++ q) (a := 0) hm h
  rw [h1] at h2
  have h3 : n = m := congrArg Prod.fst h2
  subst h3
  exact ⟨rfl, List.append_cancel_left h⟩
theorem prB_cancel {r r' : Rec} {base stamp : Int} {q q' : List UInt8} (hb : inO base = true) (hs : inO stamp = true) (hc : chkR r = 0) (hc' : chkR r' = 0) (h : prB r base stamp ++ q = prB r' base stamp ++ q') : r = r' ∧ q = q' := by
  have h1 := getR_at (l := prB r base stamp ++ q) (a := 0) hb hs hc rfl
  have h2 := getR_at (l := prB r base stamp ++ q) (a := 0) hb hs hc' h
  rw [h1] at h2
  have h3 : r = r' := congrArg Prod.fst h2
  subst h3
  exact ⟨rfl, List.append_cancel_left h⟩
theorem headB_cancel : ∀ {a b : List Int} {q q' : List UInt8}, a.length = b.length → (∀ n ∈ a, I64 n) → (∀ n ∈ b, I64 n) → headB a ++ q = headB b ++ q' → a = b ∧ q = q'
  | [], [], _, _, _, _, _, h => ⟨rfl, h⟩
  | [], _ :: _, _, _, h, _, _, _ => by cases h
  | _ :: _, [], _, _, h, _, _, _ => by cases h
  | n :: a, m :: b, q, q', hl, ha, hb, h => by
    rw [headB_cons, headB_cons, List.append_assoc, List.append_assoc] at h
    obtain ⟨rfl, h2⟩ := pvB_cancel (ha n (.head _)) (hb m (.head _)) h
    obtain ⟨rfl, h3⟩ := headB_cancel (by simpa using hl) (fun y hy => ha y (.tail _ hy)) (fun y hy => hb y (.tail _ hy)) h2
    exact ⟨rfl, h3⟩
theorem recsB_cancel {base stamp : Int} (hb : inO base = true) (hs : inO stamp = true) : ∀ {a b : List Rec} {q q' : List UInt8}, a.length = b.length → (∀ r ∈ a, chkR r = 0) → (∀ r ∈ b, chkR r = 0) → recsB base stamp a ++ q = recsB base stamp b ++ q' → a = b ∧ q = q'
  | [], [], _, _, _, _, _, h => ⟨rfl, h⟩
  | [], _ :: _, _, _, h, _, _, _ => by cases h
  | _ :: _, [], _, _, h, _, _, _ => by cases h
  | n :: a, m :: b, q, q', hl, ha, hc, h => by
    rw [recsB_cons, recsB_cons, List.append_assoc, List.append_assoc] at h
    obtain ⟨rfl, h2⟩ := prB_cancel hb hs (ha n (.head _)) (hc m (.head _)) h
    obtain ⟨rfl, h3⟩ := recsB_cancel hb hs (by simpa using hl) (fun y hy => ha y (.tail _ hy)) (fun y hy => hc y (.tail _ hy)) h2
    exact ⟨rfl, h3⟩
theorem headN_i {x : Batch} (hf : Form x) : ∀ n ∈ headN x, I64 n := by
  obtain ⟨⟨f1, f2, f3⟩, ⟨f4, f5, f6⟩, ⟨f7, f8, f9, f10⟩, f11, f12, f13⟩ := hf
  simp [rng] at f1 f2 f3 f4 f5 f6
  intro n hn
  simp [headN] at hn
  unfold I64
  omega
/-- No body is the beginning of another one. -/
theorem bodyB_cancel {x y : Batch} {q q' : List UInt8} (hx : Form x) (hy : Form y) (h : bodyB x ++ q = bodyB y ++ q') : bodyB x = bodyB y ∧ q = q' := by
  obtain ⟨hrx, hlx⟩ := form_recs hx
  obtain ⟨hry, hly⟩ := form_recs hy
  have hbx : inO x.base = true := by
    have := hx.1.1
    simpa [rng, inO] using this
  have h0 := h
  simp only [bodyB, List.append_assoc] at h
  obtain ⟨e1, h1⟩ := headB_cancel (by simp [headN]) (headN_i hx) (headN_i hy) h
  have e2 : x.base = y.base := by
    have := congrArg (fun l => l.headD 0) e1
    exact this
  have h2 : pvB (x.recs.length : Int) ++ (tailB x ++ q) = pvB (y.recs.length : Int) ++ (tailB y ++ q') := (List.cons.inj h1).2
  have e3 : markB x = markB y := (List.cons.inj h1).1
  obtain ⟨e4, h3⟩ := pvB_cancel (by unfold I64; omega) (by unfold I64; omega) h2
  have e4 : x.recs.length = y.recs.length := by omega
  have e5 : tailB x = tailB y := by
    cases hrs : x.recs with
    | nil =>
      have : y.recs = [] := List.eq_nil_of_length_eq_zero (by rw [← e4, hrs]; rfl)
      rw [tailB, tailB, hrs, this]
    | cons r rs =>
      cases hys : y.recs with
      | nil => rw [hrs, hys] at e4; cases e4
      | cons r' rs' =>
        have c1 := chk_small (hrx r (by rw [hrs]; exact .head _))
        have c2 := chk_small (hry r' (by rw [hys]; exact .head _))
        have i1 := inO_iff.1 c1.1.2
        have i2 := inO_iff.1 c2.1.2
        have t1 : tailB x = pvB r.stamp ++ recsB x.base r.stamp (r :: rs) := by rw [tailB, hrs]
        have t2 : tailB y = pvB r'.stamp ++ recsB y.base r'.stamp (r' :: rs') := by rw [tailB, hys]
        rw [t1, t2, List.append_assoc, List.append_assoc, ← e2] at h3
        obtain ⟨e6, h4⟩ := pvB_cancel (by unfold I64; omega) (by unfold I64; omega) h3
        rw [← e6] at h4
        obtain ⟨e7, -⟩ := recsB_cancel hbx c1.1.2 (by rw [hrs, hys] at e4; exact e4) (fun z hz => hrx z (by rw [hrs]; exact hz)) (fun z hz => hry z (by rw [hys]; exact hz)) h4
        rw [t1, t2, ← e2, ← e6, e7]
  have e6 : bodyB x = bodyB y := by simp only [bodyB, e1, e3, e4, e5]
  rw [e6] at h0
  exact ⟨e6, List.append_cancel_left h0⟩
/-! A sum tells one byte. -/
theorem xor_0 {a b : W32} (h : a ^^^ b = 0#32) : a = b := by
  have h2 : (a ^^^ b) ^^^ b = 0#32 ^^^ b := by rw [h]
  rwa [BitVec.xor_assoc, BitVec.xor_self, BitVec.xor_zero, BitVec.zero_xor] at h2
theorem stp_0 {v : W32} (h : stp v = 0#32) : v = 0#32 := by
  cases hb : v.getLsbD 0 with
  | true =>
    exfalso
    rw [stp, if_pos hb] at h
    have h2 : ((v >>> 1) ^^^ poly).getLsbD 31 = (0#32).getLsbD 31 := by rw [h]
    rw [BitVec.getLsbD_xor, BitVec.getLsbD_ushiftRight] at h2
    have h3 : v.getLsbD (1 + 31) = false := BitVec.getLsbD_of_ge _ _ (by omega)
    rw [h3] at h2
    exact absurd h2 (by decide)
  | false =>
    rw [stp_even hb] at h
    have h1 : (v >>> 1).toNat = 0 := by rw [h]; rfl
    rw [BitVec.toNat_ushiftRight, Nat.shiftRight_eq_div_pow] at h1
    have h2 : ¬ v.toNat % 2 = 1 := fun hh => by rw [(bit0 v).2 hh] at hb; cases hb
    apply BitVec.eq_of_toNat_eq
    show v.toNat = 0
    omega
theorem stp_inj {a b : W32} (h : stp a = stp b) : a = b := by
  apply xor_0
  apply stp_0
  rw [stp_xor, h, BitVec.xor_self]
theorem stpN_inj {a b : W32} : ∀ n, stpN n a = stpN n b → a = b
  | 0, h => h
  | n + 1, h => stpN_inj n (stp_inj (by
    have h1 := stpN_add a 1 n
    have h2 := stpN_add b 1 n
    rw [Nat.add_comm] at h1 h2
    have h3 : stpN 1 (stpN n a) = stpN 1 (stpN n b) := by rw [← h1, ← h2]; exact h
    exact h3))
theorem xor_cl {a b c : W32} (h : a ^^^ c = b ^^^ c) : a = b := by
  have h2 : (a ^^^ c) ^^^ c = (b ^^^ c) ^^^ c := by rw [h]
  rwa [BitVec.xor_assoc, BitVec.xor_self, BitVec.xor_zero, BitVec.xor_assoc, BitVec.xor_self, BitVec.xor_zero] at h2
theorem upd_v {a b : W32} {c : UInt8} (h : upd a c = upd b c) : a = b := xor_cl (stpN_inj 8 h)
theorem upd_c {a : W32} {c d : UInt8} (h : upd a c = upd a d) : c = d := by
  have h1 : a ^^^ ofB c = a ^^^ ofB d := stpN_inj 8 h
  rw [BitVec.xor_comm a, BitVec.xor_comm a] at h1
  have h2 := congrArg BitVec.toNat (xor_cl h1)
  simp only [ofB, BitVec.toNat_ofNat] at h2
  have := c.toNat_lt
  have := d.toNat_lt
  apply UInt8.toNat_inj.1
  omega
theorem fold_inj {a b : W32} : ∀ (l : List UInt8), l.foldl upd a = l.foldl upd b → a = b
  | [], h => h
  | x :: l, h => upd_v (fold_inj l h)
theorem crc_one {p s : List UInt8} {x y : UInt8} (h : crcB (p ++ x :: s) = crcB (p ++ y :: s)) : x = y := by
  unfold crcB at h
  have h1 : (p ++ x :: s).foldl upd 4294967295#32 = (p ++ y :: s).foldl upd 4294967295#32 := by
    have := congrArg (fun v => ~~~ v) h
    simpa using this
  rw [List.foldl_append, List.foldl_append, List.foldl_cons, List.foldl_cons] at h1
  exact upd_c (fold_inj s h1)
theorem putN_inj2 {n m : Nat} (hn : n < 4294967296) (hm : m < 4294967296) (h : putN n 4 = putN m 4) : n = m := by
  rw [← numB_putN 4 n hn, ← numB_putN 4 m hm, h]
theorem crc_set {l : List UInt8} {i : Nat} {t : UInt8} (hi : i < l.length) (h : crcB (l.set i t) = crcB l) : l[i]? = some t := by
  have e1 := take_one hi
  have e2 : l.set i t = l.take i ++ t :: l.drop (i + 1) := by rw [List.set_eq_take_append_cons_drop, if_pos hi]
  rw [e2] at h
  have h2 : crcB (l.take i ++ t :: l.drop (i + 1)) = crcB (l.take i ++ l[i] :: l.drop (i + 1)) := by rw [h]; exact congrArg crcB e1
  rw [crc_one h2, List.getElem?_eq_getElem hi]
theorem set_ne {l : List UInt8} {i : Nat} {t : UInt8} (hi : i < l.length) (h : l.set i t = l) : l[i]? = some t := by
  rw [← h, List.getElem?_set_self hi]
/-- Bytes of which one is another one are no batch. -/
theorem getB_spoilt {l s : List UInt8} {a i : Nat} {t : UInt8} {b : Batch} (h0 : errB b = 0) (hd : l.drop a = bytesB b ++ s) (hi : i < (bytesB b).length) (hne : ¬ (bytesB b)[i]? = some t) : ¬ (getB (l.set (a + i) t) (a : Int)).2.2 = 0 := by
  intro h
  obtain ⟨b', q, e0, e1, -, e3⟩ := getB_back h
  have e0 : b' = a := by omega
  subst e0
  generalize (getB (l.set (b' + i) t) (b' : Int)).1 = x at e1 e3
  obtain ⟨hf, hbl⟩ := errB_ok h0
  obtain ⟨hfx, hbx⟩ := errB_ok e3
  have lb := bytesB_len b
  have lx := bytesB_len x
  rw [List.drop_set, if_neg (by omega), Nat.add_sub_cancel_left, hd, List.set_append_left _ _ hi] at e1
  rw [lb] at hi
  have hP := putN_len (sealB (bodyB b)).length 4
  have hP' := putN_len (sealB (bodyB x)).length 4
  have hC := putN_len (crcB (bodyB b)).toNat 4
  have hC' := putN_len (crcB (bodyB x)).toNat 4
  have hsb := sealB_len (bodyB b)
  have hsx := sealB_len (bodyB x)
  have hu : bytesB x = putN (sealB (bodyB x)).length 4 ++ (bodyB x ++ putN (crcB (bodyB x)).toNat 4) := rfl
  have hv : bytesB b = putN (sealB (bodyB b)).length 4 ++ (bodyB b ++ putN (crcB (bodyB b)).toNat 4) := rfl
  rw [hv] at hne
  rw [hu, hv] at e1
  by_cases h4 : i < 4
  · rw [List.set_append_left _ _ (by omega), List.append_assoc, List.append_assoc, List.append_assoc, List.append_assoc] at e1
    obtain ⟨p1, p2⟩ := List.append_inj e1 (by rw [List.length_set, hP, hP'])
    obtain ⟨p3, -⟩ := bodyB_cancel hf hfx p2
    rw [← p3] at p1
    have := set_ne (by omega) p1
    rw [List.getElem?_append_left (by omega)] at hne
    exact hne this
  · rw [List.set_append_right _ _ (by omega), List.append_assoc, List.append_assoc] at e1
    obtain ⟨p1, p2⟩ := List.append_inj e1 (by rw [hP, hP'])
    have hlen : (bodyB b).length = (bodyB x).length := by
      have := putN_inj2 (by omega) (by omega) p1
      omega
    rw [List.getElem?_append_right (by omega)] at hne
    rw [hP] at hne p2
    obtain ⟨j, hj⟩ : ∃ j, j = i - 4 := ⟨_, rfl⟩
    rw [← hj] at hne p2
    by_cases hjb : j < (bodyB b).length
    · rw [List.set_append_left _ _ hjb, List.append_assoc, List.append_assoc] at p2
      obtain ⟨p3, p4⟩ := List.append_inj p2 (by rw [List.length_set, hlen])
      obtain ⟨p5, -⟩ := List.append_inj p4 (by rw [hC, hC'])
      have p6 : crcB (bodyB b) = crcB (bodyB x) := by
        apply BitVec.eq_of_toNat_eq
        exact putN_inj2 (by have := (crcB (bodyB b)).isLt; omega) (by have := (crcB (bodyB x)).isLt; omega) p5
      rw [← p3] at p6
      have := crc_set hjb p6.symm
      rw [List.getElem?_append_left hjb] at hne
      exact hne this
    · rw [List.set_append_right _ _ (by omega), List.append_assoc, List.append_assoc] at p2
      obtain ⟨p3, p4⟩ := List.append_inj p2 hlen
      obtain ⟨p5, -⟩ := List.append_inj p4 (by rw [List.length_set, hC, hC'])
      rw [← p3] at p5
      have := set_ne (by omega) p5
      rw [List.getElem?_append_right (by omega)] at hne
      exact hne this
/-- A batch cut off is too short. -/
theorem getB_short {l : List UInt8} {a c : Nat} {b : Batch} (h0 : errB b = 0) (hc : c < (bytesB b).length) (hd : l.drop a = (bytesB b).take c) : getB l (a : Int) = (noneB, 0, 10) := by
  obtain ⟨hf, hbl⟩ := errB_ok h0
  have lb := bytesB_len b
  have hsb := sealB_len (bodyB b)
  have hP := putN_len (sealB (bodyB b)).length 4
  have hbp := bodyB_pos b
  have hl : (l.drop a).length = c := by rw [hd, List.length_take]; omega
  by_cases h4 : c < 4
  · have hn : getN l (a : Int) 4 = (0, 10) := by
      rw [getN_nat, if_pos (by omega)]
    rw [getB, hn]
    rfl
  · have hn : getN l (a : Int) 4 = ((sealB (bodyB b)).length, 0) := by
      rw [getN_nat, if_neg (by omega), hd, List.take_take, Nat.min_eq_left (by omega), bytesB, List.take_left' hP, numB_putN 4 _ (by omega)]
    have hl4 : (l.drop (a + 4)).length = c - 4 := by rw [List.length_drop] at hl ⊢; omega
    rw [getB, hn]
    dsimp only
    rw [if_pos rfl, if_pos ⟨by omega, by omega⟩, Int.toNat_natCast, if_neg (by omega)]
end Go.Proofs.Ytdiccicokbbcoaa

/- Bytes, part 40 of a proof: the law of batches in a row, walked. No condition. -/
set_option linter.unusedSimpArgs false
set_option linter.unusedVariables false
namespace Go.Proofs.Ytdiccicokbbcoaa
open Go Go.Kx
theorem F11 : Fun Try.prog 11 87 v11 c11 o11 := Fun.mk' Try.func11 Try.ntmps11 (by kernel_rfl) (by kernel_rfl) s11 q11
theorem BatchRow_ok (l : List Batch) (v : Value) (G : Nat → Option Obj) (hl : SlV G (BE G) 10 v l) : FnS Try.prog 11 #[v] G (.bool true) := by
  have hfa := FewAll_ok l 12 v G hl
  obtain ⟨A, c, rfl, hc, hm, hA⟩ := hl
  refine F11.fnS (by simp) (go_of ?_)
  unfold c11
  (intros; try refine go_st ?_); refine go_r 0 0 (by decide) ?_; (refine sJ c11r0.eq_1 ?_; try with_reducible exact True.intro)
  (intros; try refine go_st ?_); refine go_r 18 19 (by decide) ?_; (refine sJ c11r1.eq_1 ?_; try with_reducible exact True.intro)
  refine (live_ok _ _ _).mono ?_; rintro _ _ ⟨rfl, rfl⟩; (refine sI ?_; try with_reducible exact True.intro)
  (intros; try refine go_st ?_); refine go_c ?_; (refine sI ?_; try with_reducible exact True.intro)
  (repeat first | (with_reducible intro _) | refine go_skip ?_ | refine go_b ?_)
  (intros; try refine go_st ?_); refine go_r 20 22 (by decide) ?_; (refine sJ c11r3.eq_1 ?_; try with_reducible exact True.intro)
  refine (hfa _ _).mono ?_
  rintro r h' ⟨⟨b1, rfl, hb1⟩, rfl⟩
  (refine sI ?_; try with_reducible exact True.intro)
  (intros; try refine go_st ?_); refine go_c ?_; (refine sI ?_; try with_reducible exact True.intro)
  refine gb (fun k1 => ?_) (fun k1 => ?_)
  · (intros; try refine go_st ?_); refine go_r 0 0 (by decide) ?_; (refine sJ c11r4.eq_1 ?_; try with_reducible exact True.intro)
    (intros; try refine go_st ?_)
    refine go_ret (retQ_v rfl ?_); simp only [push_cast, Nat.reduceBEq]
  have hb1 := hb1 (by simpa using k1)
  (repeat first | (with_reducible intro _) | refine go_skip ?_ | refine go_b ?_)
  (intros; try refine go_st ?_); refine go_r 0 0 (by decide) ?_; (refine sJ c11r5.eq_1 ?_; try with_reducible exact True.intro)
  (intros; try refine go_st ?_); refine go_r 0 0 (by decide) ?_; (refine sJ c11r6.eq_1 ?_; try with_reducible exact True.intro)
  (repeat (with_reducible intro _)); refine go_seq ?_
  refine go_ghost (ghost_nil none 5 1) ?_
  refine go_ghost (ghost_nil none 24 10) ?_
  refine go_cut (fun e h => ∃ (W : List Batch) (G' : Nat → Option Obj) (u1 u2 : Value) (z1 z2 : List Value), (Gle G G' ∧ W.length ≤ 12 ∧ (∀ x ∈ W, errB x = 0) ∧ Cells UE 1 (allB W) z1 ∧ Cells (BE G) 10 W z2) ∧ e 3 = u1 ∧ e 4 = u2 ∧ h = ⟨G', [.row u2 24 10 W.length z2, .row u1 5 1 (allB W).length z1], []⟩) ?_ ?_
  · have hk0 : ∀ x ∈ ([] : List Batch), errB x = 0 := fun x hx => by cases hx
    (intros; try refine go_st ?_); refine go_r 0 0 (by decide) ?_; (refine sJ c11r7.eq_1 ?_; try with_reducible exact True.intro)
    (intros; try refine go_st ?_)
    refine go_loop (fun e h => ∃ (k : Nat) (W : List Batch) (G' : Nat → Option Obj) (u1 u2 : Value) (z1 z2 : List Value), (k ≤ l.length ∧ W.length ≤ k ∧ Gle G G' ∧ (∀ x ∈ W, errB x = 0) ∧ Cells UE 1 (allB W) z1 ∧ Cells (BE G) 10 W z2) ∧ e 25 = .int .i64 k ∧ e 24 = .int .i64 l.length ∧ e 23 = .slice A l.length c ∧ e 3 = u1 ∧ e 4 = u2 ∧ h = ⟨G', [.row u2 24 10 W.length z2, .row u1 5 1 (allB W).length z1], []⟩) (fun e h => l.length - iv (e 25)) ?_ ?_
    · exact ⟨0, [], G, _, _, [], [], ⟨Nat.zero_le _, Nat.le_refl _, .refl G, hk0, .nil, .nil⟩, eE, eE, eE, eE, eE, rfl⟩
    · rintro e h ⟨k, W, G1, u1, u2, z1, z2, ⟨hk, hWk, hg1, hW0, hz1, hz2⟩, e25, e24, e23, e3, e4, rfl⟩
      refine go_keep [3, 4, 23, 24, 25] ?_
      (refine sJ5 @e3 @e4 @e23 @e24 @e25 ?_; try with_reducible exact True.intro)
      (intros; try refine go_st ?_); refine go_r 0 0 (by decide) ?_; (refine sJ c11r8.eq_1 ?_; try with_reducible exact True.intro)
      (intros; try refine go_st ?_); refine go_c ?_; (refine sI ?_; try with_reducible exact True.intro)
      refine gb (fun ht => ?_) (fun ht => ?_)
      · have ht : k < l.length := by have := of_decide_eq_true ht; omega
        have hw := inc_i k c (by omega) hm
        have hWl := allB_len hW0
        obtain ⟨x, hx⟩ : ∃ x, l[k]? = some x := ⟨l[k], List.getElem?_eq_getElem (by omega)⟩
        have hA1 := hA.le hg1 (E' := BE G) fun _ _ h => h
        (repeat first | (with_reducible intro _) | refine go_skip ?_ | refine go_b ?_)
        (intros; try refine go_st ?_); refine go_r 27 29 (by decide) ?_; (refine sJ c11r9.eq_1 ?_; try with_reducible exact True.intro)
        refine hA1.x_ld hx rfl rfl ?_
        rintro a1 ha1 cs hbe
        have hput := BPut_ok x cs G1 (BE.le hg1 hbe)
        have hbe0 := hbe
        obtain ⟨B, d, rfl, -⟩ := hbe
        unfold cellH at hput hbe0 ⊢
        (refine sI ?_; try with_reducible exact True.intro)
        (intros; try refine go_st ?_); refine go_r 29 34 (by decide) ?_; (refine sJ c11r10.eq_1 ?_; try with_reducible exact True.intro)
        refine (hput _ []).mono ?_
        rintro r h' ⟨G2, L', rfl, hg2, w, rfl, ys, hys, rfl⟩
        (refine sI ?_; try with_reducible exact True.intro)
        (repeat (with_reducible intro _)); refine go_seq ?_
        refine go_gx (gx_slv_at [] _ (by decide) hys) ?_
        rintro h' ⟨G3, rfl, hg3, hv3⟩
        have hg03 : Gle G G3 := hg1.trans (hg2.trans hg3)
        (intros; try refine go_st ?_); refine go_r 34 35 (by decide) ?_; (refine sJ c11r11.eq_1 ?_; try with_reducible exact True.intro)
        by_cases he : errB x = 0
        · rw [putB_0 he] at hv3 ⊢
          have hv3 : SB G3 w (bytesB x) := hv3
          have hbl := (errB_ok he).2
          have hWx : ∀ y ∈ W ++ [x], errB y = 0 := fun y hy => by
            rcases List.mem_append.1 hy with h | h
            · exact hW0 y h
            · simp at h; subst h; exact he
          (intros; try refine go_st ?_); refine go_c ?_; (refine sI ?_; try with_reducible exact True.intro)
          (repeat first | (with_reducible intro _) | refine go_skip ?_ | refine go_b ?_)
          (intros; try refine go_st ?_); refine go_r 36 39 (by decide) ?_; (refine sJ c11r12.eq_1 ?_; try with_reducible exact True.intro)
          refine apX_v (L1 := [_, _]) (.inl rfl) hv3 rfl UE1 (by unfold maxLen; omega) fun ys1 A1 c1 hc1 => ?_
          have hh1 := hz1.app hc1
          rw [← List.length_append, ← allB_snoc] at *
          (refine sI ?_; try with_reducible exact True.intro)
          (intros; try refine go_st ?_); refine go_r 39 43 (by decide) ?_; (refine sJ c11r13.eq_1 ?_; try with_reducible exact True.intro)
          intro bk hbk
          refine app1 (L1 := [_]) (L2 := [_]) (E := BE G) (x := x) rfl hbe0 rfl (by simp [Value.oneCell']) hz2 (by omega) (by omega) fun A' c' zc' hzc => ?_
          (refine sI ?_; try with_reducible exact True.intro)
          (repeat first | (with_reducible intro _) | refine go_skip ?_ | refine go_b ?_)
          refine go_ghost (ghost_sub (L' := [.row (.slice A' (W ++ [x]).length c') 24 10 (W ++ [x]).length zc', .row (.slice A1 (allB (W ++ [x])).length c1) 5 1 (allB (W ++ [x])).length (z1 ++ ys1)]) (.cons _ (.cons _ (.cons_cons _ (List.Sublist.refl _))))) ?_
          (intros; try refine go_st ?_); refine go_r 43 44 (by decide) ?_; (refine sJ2 c11r14.eq_1 @hw ?_; try with_reducible exact True.intro)
          (intros; try refine go_st ?_)
          refine go_l ⟨⟨k + 1, W ++ [x], G3, _, _, z1 ++ ys1, zc', ⟨by omega, by simp; omega, hg03, hWx, hh1, hzc⟩, eE, eE, eE, eE, eE, rfl⟩, ?_⟩
          (refine sI ?_; try with_reducible exact True.intro)
          omega
        · have hne : (putB x).2 ≠ 0 := by rw [putB_n he]; exact he
          (intros; try refine go_st ?_); refine go_c ?_; (refine sI ?_; try with_reducible exact True.intro)
          refine gb (fun k2 => absurd (of_decide_eq_true k2) hne) (fun _ => ?_)
          (repeat first | (with_reducible intro _) | refine go_skip ?_ | refine go_b ?_)
          refine go_ghost (ghost_sub (L' := [.row u2 24 10 W.length z2, .row u1 5 1 (allB W).length z1]) (.cons _ (List.Sublist.refl _))) ?_
          (intros; try refine go_st ?_); refine go_r 43 44 (by decide) ?_; (refine sJ2 c11r14.eq_1 @hw ?_; try with_reducible exact True.intro)
          (intros; try refine go_st ?_)
          refine go_l ⟨⟨k + 1, W, G3, u1, u2, z1, z2, ⟨by omega, by omega, hg03, hW0, hz1, hz2⟩, eE, eE, eE, eE, eE, rfl⟩, ?_⟩
          (refine sI ?_; try with_reducible exact True.intro)
          omega
      · refine go_exit ?_
        (refine sI ?_; try with_reducible exact True.intro)
        (repeat first | (with_reducible intro _) | refine go_skip ?_ | refine go_b ?_)
        exact go_l ⟨W, G1, u1, u2, z1, z2, ⟨hg1, by omega, hW0, hz1, hz2⟩, eE, eE, rfl⟩
  rintro e h ⟨W, G1, u1, u2, z1, z2, ⟨hg1, hW, hW0, hz1, hz2⟩, e3, e4, rfl⟩
  refine go_gx (gx_slv_at [_] _ (by decide) hz1) ?_
  rintro h' ⟨G2, rfl, hg2, hv1⟩
  refine go_gx (gx_slv_at [] _ (by decide) hz2) ?_
  rintro h' ⟨G3, rfl, hg3, hv2⟩
  obtain ⟨A2, c2, rfl, hc2, hm2, hA2⟩ := hv2
  have hv1 : SB G3 u1 (allB W) := SB.le hv1 hg3
  obtain ⟨A1, c1, rfl, hc1⟩ := id hv1
  have hWl := allB_len hW0
  have hg13 : Gle G G3 := hg1.trans (hg2.trans hg3)
  refine go_keep [3, 4] ?_
  (refine sJ2 @e3 @e4 ?_; try with_reducible exact True.intro)
  (intros; try refine go_st ?_); refine go_r 0 0 (by decide) ?_; (refine sJ c11r15.eq_1 ?_; try with_reducible exact True.intro)
  (intros; try refine go_st ?_); refine go_r 0 0 (by decide) ?_; (refine sJ c11r16.eq_1 ?_; try with_reducible exact True.intro)
  (repeat (with_reducible intro _))
  refine go_cut (fun e h => ∃ (G' : Nat → Option Obj), Gle G3 G' ∧ e 9 = .int .i64 ((allB W).length : Int) ∧ e 3 = .slice A1 (allB W).length c1 ∧ h = ⟨G', [], []⟩) ?_ ?_
  · (intros; try refine go_st ?_)
    refine go_loop (fun e h => ∃ (k : Nat) (G' : Nat → Option Obj), (k ≤ W.length ∧ Gle G3 G') ∧ e 46 = .int .i64 k ∧ e 45 = .int .i64 W.length ∧ e 44 = .slice A2 W.length c2 ∧ e 9 = .int .i64 ((allB (W.take k)).length : Int) ∧ e 3 = .slice A1 (allB W).length c1 ∧ h = ⟨G', [], []⟩) (fun e h => W.length - iv (e 46)) ?_ ?_
    · exact ⟨0, G3, ⟨Nat.zero_le _, .refl _⟩, eE, eE, eE, rfl, eE, rfl⟩
    · rintro e h ⟨k, G4, ⟨hk, hg4⟩, e46, e45, e44, e9, e3, rfl⟩
      refine go_keep [3, 9, 44, 45, 46] ?_
      (refine sJ5 @e3 @e9 @e44 @e45 @e46 ?_; try with_reducible exact True.intro)
      (intros; try refine go_st ?_); refine go_r 0 0 (by decide) ?_; (refine sJ c11r17.eq_1 ?_; try with_reducible exact True.intro)
      (intros; try refine go_st ?_); refine go_c ?_; (refine sI ?_; try with_reducible exact True.intro)
      refine gb (fun ht => ?_) (fun ht => ?_)
      · have ht : k < W.length := by have := of_decide_eq_true ht; omega
        have hw := inc_i k c2 (by omega) hm2
        obtain ⟨x, hx⟩ : ∃ x, W[k]? = some x := ⟨W[k], List.getElem?_eq_getElem (by omega)⟩
        have hA4 := hA2.le hg4 (E' := BE G) fun _ _ h => h
        have hga := getB_all hW0 hx
        have hbp := bytesB_pos x
        have hln : (allB (W.take (k + 1))).length = (allB (W.take k)).length + (bytesB x).length := by rw [allB_take hx, List.length_append]
        have hget := BGet_ok (allB W) (((allB (W.take k)).length : Nat) : Int) _ G4 (SB.le hv1 hg4) (by omega)
        rw [show GetBR (allB W) (((allB (W.take k)).length : Nat) : Int) = fun G r => ∃ cs, r = .tuple #[.agg cs.toArray, .int .i64 (((allB (W.take (k + 1))).length : Nat) : Int), .int .i64 0] ∧ BE G x cs from by
          funext G r
          rw [GetBR, hga]] at hget
        generalize hn1 : (allB (W.take (k + 1))).length = n1 at *
        generalize (allB (W.take k)).length = n0 at *
        (repeat first | (with_reducible intro _) | refine go_skip ?_ | refine go_b ?_)
        (intros; try refine go_st ?_); refine go_r 48 50 (by decide) ?_; (refine sJ c11r18.eq_1 ?_; try with_reducible exact True.intro)
        refine hA4.x_ld hx rfl rfl ?_
        rintro a1 ha1 cs hbe
        have hbe0 := hbe
        obtain ⟨B, d, rfl, -⟩ := hbe
        unfold cellH at hbe0 ⊢
        (refine sI ?_; try with_reducible exact True.intro)
        (intros; try refine go_st ?_); refine go_r 50 57 (by decide) ?_; (refine sJ c11r19.eq_1 ?_; try with_reducible exact True.intro)
        refine (hget _ _).mono ?_
        rintro r h' ⟨G5, rfl, hg5, cs5, rfl, hbe5⟩
        have hbe51 := hbe5
        obtain ⟨B5, d5, rfl, -⟩ := hbe5
        unfold cellH at hbe51
        unfold cellH
        (refine sI ?_; try with_reducible exact True.intro)
        have hle : decide ((n1 : Int) ≤ (n0 : Int)) = false := decide_eq_false (by omega)
        have hz : decide ((0 : Int) ≠ 0) = false := by decide
        (intros; try refine go_st ?_); refine go_r 57 69 (by decide) ?_; (refine sJ2 c11r20.eq_1 @hz ?_; try with_reducible exact True.intro)
        refine (Same_ok _ _ _ _ _ hbe51 (BE.le (hg13.trans (hg4.trans hg5)) hbe0) _ _).mono ?_; rintro _ _ ⟨rfl, rfl⟩; (refine sJ @hle ?_; try with_reducible exact True.intro)
        (intros; try refine go_st ?_); refine go_c ?_; (refine sI ?_; try with_reducible exact True.intro)
        (repeat first | (with_reducible intro _) | refine go_skip ?_ | refine go_b ?_)
        refine go_ghost (ghost_sub (L' := []) (List.nil_sublist _)) ?_
        (intros; try refine go_st ?_); refine go_r 70 71 (by decide) ?_; (refine sJ c11r22.eq_1 ?_; try with_reducible exact True.intro)
        (intros; try refine go_st ?_); refine go_r 71 72 (by decide) ?_; (refine sJ2 c11r23.eq_1 @hw ?_; try with_reducible exact True.intro)
        (intros; try refine go_st ?_)
        refine go_l ⟨⟨k + 1, G5, ⟨by omega, hg4.trans hg5⟩, eE, eE, eE, (eJ @hn1), eE, rfl⟩, ?_⟩
        (refine sI ?_; try with_reducible exact True.intro)
        omega
      · have ht : k = W.length := by have := of_decide_eq_false ht; omega
        subst ht
        have htk : W.take W.length = W := List.take_length
        refine go_exit ?_
        (refine sI ?_; try with_reducible exact True.intro)
        (repeat first | (with_reducible intro _) | refine go_skip ?_ | refine go_b ?_)
        exact go_l ⟨G4, hg4, (eJ @htk), eE, rfl⟩
  rintro e h ⟨G4, hg4, e9, e3, rfl⟩
  have hget := BGet_ok (allB W) (((allB W).length : Nat) : Int) _ G4 (SB.le hv1 hg4) (by omega)
  rw [show GetBR (allB W) (((allB W).length : Nat) : Int) = fun G r => ∃ cs, r = .tuple #[.agg cs.toArray, .int .i64 0, .int .i64 10] ∧ BE G noneB cs from by
    funext G r
    rw [GetBR, getB_end]] at hget
  refine go_keep [3, 9] ?_
  (refine sJ2 @e3 @e9 ?_; try with_reducible exact True.intro)
  (intros; try refine go_st ?_); refine go_r 72 79 (by decide) ?_; (refine sJ c11r24.eq_1 ?_; try with_reducible exact True.intro)
  refine (hget _ _).mono ?_
  rintro r h' ⟨G5, rfl, hg5, cs5, rfl, hbe5⟩
  obtain ⟨B5, d5, rfl, -⟩ := hbe5
  unfold cellH
  (refine sI ?_; try with_reducible exact True.intro)
  (intros; try refine go_st ?_); refine go_r 79 87 (by decide) ?_; (refine sJ c11r25.eq_1 ?_; try with_reducible exact True.intro)
  (intros; try refine go_st ?_)
  refine go_ret (retQ_v rfl ?_); simp only [push_cast, Nat.reduceBEq]
end Go.Proofs.Ytdiccicokbbcoaa

/- Bytes, part 41 of a proof: the law of a batch that is spoilt, walked. No condition. -/
set_option linter.unusedSimpArgs false
set_option linter.unusedVariables false
namespace Go.Proofs.Ytdiccicokbbcoaa
open Go Go.Kx
theorem F10 : Fun Try.prog 10 86 v10 c10 o10 := Fun.mk' Try.func10 Try.ntmps10 (by kernel_rfl) (by kernel_rfl) s10 q10
theorem eq_u8 (x y : UInt8) : binV .eql (.int .u8 (x.toNat : Int)) (.int .u8 (y.toNat : Int)) = some (.bool (decide (x = y))) := by
  have : decide (x = y) = decide ((x.toNat : Int) = (y.toNat : Int)) := by
    apply decide_eq_decide.2
    constructor
    · rintro rfl; rfl
    · intro h; exact UInt8.toNat_inj.1 (by omega)
  rw [this]
  simp [binV]
theorem BatchSpoilt_ok (x : Batch) (a0 k0 t0 : Int) (cs : List Value) (G : Nat → Option Obj) (hx : BE G x cs) (ha : I64 a0) (hk : I64 k0) (ht : t0 = ((UInt8.ofNat t0.toNat).toNat : Int)) : FnS Try.prog 10 #[.agg cs.toArray, .int .i64 a0, .int .i64 k0, .int .u8 t0] G (.bool true) := by
  generalize UInt8.ofNat t0.toNat = t at ht
  subst ht
  have h1 := Few_ok x cs G hx
  have h2 := BPut_ok x cs G hx
  have hx0 := hx
  obtain ⟨A, c, rfl, -⟩ := hx
  refine F10.fnS (by simp) (go_of ?_)
  unfold c10
  unfold cellH at h1 h2 hx0 ⊢
  (intros; try refine go_st ?_); refine go_r 0 0 (by decide) ?_; (refine sJ c10r0.eq_1 ?_; try with_reducible exact True.intro)
  (intros; try refine go_st ?_); refine go_r 18 19 (by decide) ?_; (refine sJ c10r1.eq_1 ?_; try with_reducible exact True.intro)
  refine (live_ok _ _ _).mono ?_; rintro _ _ ⟨rfl, rfl⟩; (refine sI ?_; try with_reducible exact True.intro)
  (intros; try refine go_st ?_); refine go_c ?_; (refine sI ?_; try with_reducible exact True.intro)
  have hskip : ∀ (fr : List Td) (e : Env) (L : List Kx.Item), go none Try.prog 86 v10.1 v10.2 (retQ o10 fun v h => v = .bool true) (Td.s ((SC.reg false c10r4).seq .ret) :: fr) e ⟨G, L, []⟩ := fun fr e L => by
    (intros; try refine go_st ?_); refine go_r 0 0 (by decide) ?_; (refine sJ c10r4.eq_1 ?_; try with_reducible exact True.intro)
    (intros; try refine go_st ?_)
    refine go_ret (retQ_v rfl ?_); simp only [push_cast, Nat.reduceBEq]
  (repeat first | (with_reducible intro _) | refine go_skip ?_ | refine go_b ?_)
  (intros; try refine go_st ?_); refine go_r 20 30 (by decide) ?_; (refine sJ c10r3.eq_1 ?_; try with_reducible exact True.intro)
  refine (h1 _ _).mono ?_
  rintro r h' ⟨⟨b, rfl, -⟩, rfl⟩
  (refine sI ?_; try with_reducible exact True.intro)
  refine gd (fun k1 => ?_) (fun k1 => ?_)
  · (refine sI ?_; try with_reducible exact True.intro)
    (intros; try refine go_st ?_); refine go_c ?_; (refine sI ?_; try with_reducible exact True.intro)
    exact hskip _ _ _
  (refine sI ?_; try with_reducible exact True.intro)
  refine gd (fun k2 => ?_) (fun k2 => ?_)
  · (refine sI ?_; try with_reducible exact True.intro)
    (intros; try refine go_st ?_); refine go_c ?_; (refine sI ?_; try with_reducible exact True.intro)
    exact hskip _ _ _
  have k2 := of_decide_eq_false k2
  (refine sI ?_; try with_reducible exact True.intro)
  (intros; try refine go_st ?_); refine go_c ?_; (refine sI ?_; try with_reducible exact True.intro)
  refine gb (fun k3 => ?_) (fun k3 => ?_)
  · exact hskip _ _ _
  have k3 := of_decide_eq_false k3
  clear hskip
  obtain ⟨a, rfl⟩ : ∃ a : Nat, a0 = a := ⟨a0.toNat, by omega⟩
  obtain ⟨k, rfl⟩ : ∃ k : Nat, k0 = k := ⟨k0.toNat, by omega⟩
  (repeat first | (with_reducible intro _) | refine go_skip ?_ | refine go_b ?_)
  (intros; try refine go_st ?_); refine go_r 31 36 (by decide) ?_; (refine sJ c10r5.eq_1 ?_; try with_reducible exact True.intro)
  refine (h2 _ _).mono ?_
  rintro r h' ⟨G1, L', rfl, hg1, w, rfl, ys, hys, rfl⟩
  (refine sI ?_; try with_reducible exact True.intro)
  (repeat (with_reducible intro _)); refine go_seq ?_
  refine go_gx (gx_slv_at [] _ (by decide) hys) ?_
  rintro h' ⟨G2, rfl, hg2, hv2⟩
  by_cases he : errB x = 0
  rotate_left
  · rw [putB_n he] at hv2 ⊢
    obtain ⟨B, d, rfl, -⟩ := id hv2
    (intros; try refine go_st ?_); refine go_r 36 37 (by decide) ?_; (refine sJ c10r6.eq_1 ?_; try with_reducible exact True.intro)
    (intros; try refine go_st ?_); refine go_c ?_; (refine sI ?_; try with_reducible exact True.intro)
    refine gb (fun k4 => ?_) (fun k4 => absurd (of_decide_eq_false k4) (by simpa using he))
    (intros; try refine go_st ?_); refine go_r 38 41 (by decide) ?_; (refine sJ c10r7.eq_1 ?_; try with_reducible exact True.intro)
    (intros; try refine go_st ?_)
    refine go_ret (retQ_v rfl ?_); simp only [push_cast, Nat.reduceBEq]
  rw [putB_0 he] at hv2 ⊢
  have hv2 : SB G2 w (bytesB x) := hv2
  have hbl := (errB_ok he).2
  have hbp := bytesB_pos x
  obtain ⟨B, d, rfl, hd1, hd2, hB⟩ := id hv2
  (intros; try refine go_st ?_); refine go_r 36 37 (by decide) ?_; (refine sJ c10r6.eq_1 ?_; try with_reducible exact True.intro)
  (intros; try refine go_st ?_); refine go_c ?_; (refine sI ?_; try with_reducible exact True.intro)
  refine gb (fun k4 => absurd rfl (of_decide_eq_true k4)) (fun _ => ?_)
  have hshort : ∀ c, c < (bytesB x).length → getB ((bytesB x).take c) 0 = (noneB, 0, 10) := fun c hc => getB_short (a := 0) he hc rfl
  have hsp : ∀ i, i < (bytesB x).length → ∀ u, (bytesB x)[i]? = some u → (decide ((getB ((bytesB x).set i t) 0).2.2 = 0)) = decide (u = t) := fun i hi u hu => by
    apply decide_eq_decide.2
    constructor
    · intro h
      by_cases hut : u = t
      · exact hut
      · exfalso
        have := getB_spoilt (l := bytesB x) (s := []) (a := 0) (t := t) he (by simp) hi (by rw [hu]; simpa using hut)
        rw [Nat.zero_add] at this
        exact this h
    · rintro rfl
      have e : (bytesB x).set i u = bytesB x := by
        obtain ⟨h1, h2⟩ := List.getElem?_eq_some_iff.1 hu
        rw [← h2, List.set_getElem_self]
      rw [e]
      have := getB_at (l := bytesB x) (a := 0) (q := []) he (by simp)
      exact congrArg (fun p => p.2.2) this
  generalize bytesB x = X at *
  have hr1 := bin_rem .i64 k X.length (by omega)
  have hr2 := bin_rem .i64 a X.length (by omega)
  have hlt1 : k % X.length < X.length := Nat.mod_lt _ (by omega)
  have hlt2 : a % X.length < X.length := Nat.mod_lt _ (by omega)
  generalize k % X.length = i1 at hr1 hlt1
  generalize a % X.length = i2 at hr2 hlt2
  have hX0 : decide ((X.length : Int) = 0) = false := decide_eq_false (by omega)
  (repeat first | (with_reducible intro _) | refine go_skip ?_ | refine go_b ?_)
  (intros; try refine go_st ?_); refine go_r 41 43 (by decide) ?_; (refine sJ2 c10r8.eq_1 @hX0 ?_; try with_reducible exact True.intro)
  (intros; try refine go_st ?_); refine go_c ?_; (refine sI ?_; try with_reducible exact True.intro)
  (repeat first | (with_reducible intro _) | refine go_skip ?_ | refine go_b ?_)
  have hpre := SlV.pre i1 hv2 (by omega)
  have hget1 := BGet_ok (X.take i1) 0 _ G2 hpre (by simp; omega)
  rw [show GetBR (X.take i1) 0 = fun G r => ∃ cs, r = .tuple #[.agg cs.toArray, .int .i64 0, .int .i64 10] ∧ BE G noneB cs from by
    funext G r
    rw [GetBR, hshort i1 hlt1]] at hget1
  (intros; try refine go_st ?_); refine go_r 44 55 (by decide) ?_; (refine sJ2 c10r10.eq_1 @hr1 ?_; try with_reducible exact True.intro)
  refine ⟨by omega, ?_⟩
  refine (hget1 _ _).mono ?_
  rintro r h' ⟨G3, rfl, hg3, cs3, rfl, hbe3⟩
  obtain ⟨B3, d3, rfl, -⟩ := hbe3
  unfold cellH
  (refine sI ?_; try with_reducible exact True.intro)
  (intros; try refine go_st ?_); refine go_r 55 57 (by decide) ?_; (refine sJ c10r11.eq_1 ?_; try with_reducible exact True.intro)
  refine (Copy_ok X _ G3 (SB.le hv2 hg3) (by omega) _ _).mono ?_
  rintro r h' ⟨G4, L', rfl, hg4, zs, hzs, rfl⟩
  (refine sI ?_; try with_reducible exact True.intro)
  (repeat (with_reducible intro _)); refine go_seq ?_
  refine go_gx (gx_know (.head _) (by omega)) ?_
  rintro h' ⟨rfl, g, c0, rfl, -, -⟩
  have hX2 : X[i2]? = some X[i2] := List.getElem?_eq_getElem hlt2
  have hnew := hzs.set (x := t) (cs := [.int .u8 (t.toNat : Int)]) hlt2 rfl rfl
  (intros; try refine go_st ?_); refine go_r 57 64 (by decide) ?_; (refine sJ2 c10r12.eq_1 @hr2 ?_; try with_reducible exact True.intro)
  refine ⟨by omega, _, rfl, ?_⟩
  rw [add_off, Nat.zero_add]
  refine stX_row [] [_, _] rfl (by have := hzs.len; simp at this ⊢; omega) ⟨rfl, rfl⟩ ?_
  (refine sI ?_; try with_reducible exact True.intro)
  (repeat (with_reducible intro _)); refine go_seq ?_
  refine go_gx (gx_slv_at [] _ (by decide) hnew) ?_
  rintro h' ⟨G5, rfl, hg5, hv5⟩
  have hget2 := BGet_ok (X.set i2 t) 0 _ G5 hv5 (by simp; omega)
  have hsp := hsp i2 hlt2 _ hX2
  unfold GetBR at hget2
  generalize getB (X.set i2 t) 0 = q at hget2 hsp
  obtain ⟨y, nx, er⟩ := q
  dsimp only at hget2 hsp
  (intros; try refine go_st ?_); refine go_r 64 70 (by decide) ?_; (refine sJ c10r13.eq_1 ?_; try with_reducible exact True.intro)
  refine (hget2 _ _).mono ?_
  rintro r h' ⟨G6, rfl, hg6, cs6, rfl, hbe6⟩
  obtain ⟨B6, d6, rfl, -⟩ := hbe6
  unfold cellH
  (refine sI ?_; try with_reducible exact True.intro)
  have hBB := hB.le (hg3.trans (hg4.trans (hg5.trans hg6))) (E' := UE) fun _ _ h => h
  (intros; try refine go_st ?_); refine go_r 70 86 (by decide) ?_; (refine sJ2 c10r14.eq_1 @hr2 ?_; try with_reducible exact True.intro)
  (refine sJ @hr2 ?_; try with_reducible exact True.intro)
  refine hBB.x_l1 hX2 rfl rfl ?_
  rintro a2 ha2 u hu
  cases hu
  have heq := eq_u8 X[i2] t
  (refine sJ2 @heq @hsp ?_; try with_reducible exact True.intro)
  (intros; try refine go_st ?_)
  refine go_ret (retQ_v rfl ?_); simp only [push_cast, Nat.reduceBEq]
  simp
end Go.Proofs.Ytdiccicokbbcoaa

/- What functions of the chapter on translations compute: part 9 of a proof: the example. No condition. -/
import Derived.Test.YtbddbogdhkikoaaW8
set_option linter.unusedSimpArgs false
set_option linter.unusedVariables false
namespace Go.Proofs.Ytbddbogdhkikoaa
open Go Go.Kx
theorem F12 : Fun Try.prog 12 157 v12 c12 o12 := Fun.mk' Try.func12 Try.ntmps12 (by kernel_rfl) (by kernel_rfl) s12 q12
def exA : Trans := ⟨10, [(0, 5)]⟩
def exC : Trans := ⟨10, [(0, 5), (10, 14)]⟩
theorem ex_a : chkT exA = 0 := (chk0_iff _).2 ⟨by decide, ⟨by decide, by simp [exA]⟩, by decide⟩
theorem ex_c : chkT exC = 0 := (chk0_iff _).2 ⟨by decide, ⟨by decide, by simp [exC, Up]⟩, by decide⟩
theorem ex_t : chkT ⟨10, []⟩ = 0 := (chk0_iff _).2 ⟨by decide, ⟨by decide, by simp⟩, by decide⟩
theorem ex_0 : chkT ⟨0, []⟩ = 1 := by rw [chk_new]; rfl
theorem ex_new : newM 10 = (⟨10, []⟩, 0) := if_pos (by decide)
theorem ex_1 : addM ⟨10, []⟩ 0 5 = (exA, 0) := by
  rw [addM, if_neg (by simp [ex_t]), if_neg (by decide)]
  rfl
theorem ex_2 : addM exA 7 12 = (exA, 0) := by
  rw [addM, if_neg (by simp [ex_a]), if_neg (by decide)]
  rfl
theorem ex_3 : addM exA 10 14 = (exC, 0) := by
  rw [addM, if_neg (by simp [ex_a]), if_neg (by decide)]
  rfl
theorem ex_4 : addM exC 9 20 = (⟨0, []⟩, 71) := by
  rw [addM, if_neg (by simp [ex_c]), if_neg (by decide)]
  rfl
theorem ex_d1 : toldM exC true 9 = (5, true) := by rw [toldM_good ex_c]; rfl
theorem ex_d2 : toldM exC true 30 = (14, true) := by rw [toldM_good ex_c]; rfl
theorem ex_u1 : toldM exC false 13 = (0, true) := by rw [toldM_good ex_c]; rfl
theorem ex_u2 : toldM exC false 4 = (0, false) := by rw [toldM_good ex_c]; rfl
theorem ex_ch : chainM exC exC = (exC, 0) := by rw [chain_ok ex_c ex_c]; rfl
theorem ex_tr : trimT exC 12 = ⟨10, [(10, 14)]⟩ := by rw [trimT, if_pos ex_c]; rfl
theorem live_same (t : Trans) (ct : List Value) (bk : Nat) (G : Nat → Option Obj) (ht : TE G t ct) (L : List Kx.Item) (D : List Nat) (he : t = exC) :
    CallsH Try.prog 18 #[.agg ct.toArray, .agg #[.int .i64 10, .slice (some ⟨bk, 0, none⟩) 2 2]] ⟨G, .row (.slice (some ⟨bk, 0, none⟩) 2 2) 44 2 2 [.int .i64 0, .int .i64 5, .int .i64 10, .int .i64 14] :: L, D⟩ fun r h' => r = .bool true ∧ h' = ⟨G, .row (.slice (some ⟨bk, 0, none⟩) 2 2) 44 2 2 [.int .i64 0, .int .i64 5, .int .i64 10, .int .i64 14] :: L, D⟩ := by
  refine lend1 (E := EE) (xs := [(0, 5), (10, 14)]) (R := fun r => r = .bool true) F18.enters (by decide) (.cons (cs := [.int .i64 0, .int .i64 5]) ⟨rfl, by unfold I64; decide, by unfold I64; decide⟩ rfl (.one (cs := [.int .i64 10, .int .i64 14]) ⟨rfl, by unfold I64; decide, by unfold I64; decide⟩ rfl)) fun G' hg hx => ?_
  have := Same_ok t ⟨10, [(0, 5), (10, 14)]⟩ ct _ G' (ht.le hg) (TE.mk (by unfold I64; decide) hx) L D
  subst he
  simpa [exC] using this
theorem i64_of (n : Int) (h : -9223372036854775808 ≤ n ∧ n ≤ 9223372036854775807) : I64 n := h
theorem live_ok (G : Nat → Option Obj) : FnS Try.prog 12 #[] G (.bool true) := by
  refine F12.fnS (by simp) (go_of ?_)
  unfold c12
  (repeat first | (with_reducible intro _) | refine go_seq ?_ | refine go_skip ?_ | refine go_lab ?_ | refine go_blk ?_ | refine go_b ?_ | refine go_n ?_ | refine go_scp ?_); refine go_r 0 0 (by decide) ?_; (try simp -implicitDefEqProofs only [kR_e, kQ_e, push_cast, Nat.reduceBEq, Nat.reduceAdd, Nat.reduceSub, Nat.reduceMul, Nat.reduceLT, Nat.reduceLeDiff, Nat.reduceEqDiff, reduceIte, Bool.not_true, Bool.not_false, true_and, and_true, Option.map_some, Option.bind_some, Int.toNat_natCast, c12r0])
  (repeat first | (with_reducible intro _) | refine go_seq ?_ | refine go_skip ?_ | refine go_lab ?_ | refine go_blk ?_ | refine go_b ?_ | refine go_n ?_ | refine go_scp ?_); refine go_r 24 28 (by decide) ?_; (try simp -implicitDefEqProofs only [kR_e, kQ_e, push_cast, Nat.reduceBEq, Nat.reduceAdd, Nat.reduceSub, Nat.reduceMul, Nat.reduceLT, Nat.reduceLeDiff, Nat.reduceEqDiff, reduceIte, Bool.not_true, Bool.not_false, true_and, and_true, Option.map_some, Option.bind_some, Int.toNat_natCast, c12r1])
  refine (New_ok 10 (i64_of _ (by decide)) G [] []).mono ?_
  rintro r h' ⟨G1, rfl, hg1, ct, rfl, ht⟩
  rw [ex_new] at ht ⊢
  obtain ⟨A1, c1, rfl, -, -⟩ := id ht
  (try simp -implicitDefEqProofs only [kR_e, kQ_e, push_cast, Nat.reduceBEq, Nat.reduceAdd, Nat.reduceSub, Nat.reduceMul, Nat.reduceLT, Nat.reduceLeDiff, Nat.reduceEqDiff, reduceIte, Bool.not_true, Bool.not_false, true_and, and_true, Option.map_some, Option.bind_some, Int.toNat_natCast])
  (repeat first | (with_reducible intro _) | refine go_seq ?_ | refine go_skip ?_ | refine go_lab ?_ | refine go_blk ?_ | refine go_b ?_ | refine go_n ?_ | refine go_scp ?_); refine go_r 28 33 (by decide) ?_; (try simp -implicitDefEqProofs only [kR_e, kQ_e, push_cast, Nat.reduceBEq, Nat.reduceAdd, Nat.reduceSub, Nat.reduceMul, Nat.reduceLT, Nat.reduceLeDiff, Nat.reduceEqDiff, reduceIte, Bool.not_true, Bool.not_false, true_and, and_true, Option.map_some, Option.bind_some, Int.toNat_natCast, c12r2])
  refine (Add_ok _ _ 0 5 (i64_of _ (by decide)) (i64_of _ (by decide)) G1 ht _ []).mono ?_
  rintro r h' ⟨G2, rfl, hg2, ca, rfl, ha⟩
  dsimp only at ha ⊢
  rw [ex_1] at ha ⊢
  obtain ⟨A2, c2, rfl, -, -⟩ := id ha
  (try simp -implicitDefEqProofs only [kR_e, kQ_e, push_cast, Nat.reduceBEq, Nat.reduceAdd, Nat.reduceSub, Nat.reduceMul, Nat.reduceLT, Nat.reduceLeDiff, Nat.reduceEqDiff, reduceIte, Bool.not_true, Bool.not_false, true_and, and_true, Option.map_some, Option.bind_some, Int.toNat_natCast])
  (repeat first | (with_reducible intro _) | refine go_seq ?_ | refine go_skip ?_ | refine go_lab ?_ | refine go_blk ?_ | refine go_b ?_ | refine go_n ?_ | refine go_scp ?_); refine go_r 33 38 (by decide) ?_; (try simp -implicitDefEqProofs only [kR_e, kQ_e, push_cast, Nat.reduceBEq, Nat.reduceAdd, Nat.reduceSub, Nat.reduceMul, Nat.reduceLT, Nat.reduceLeDiff, Nat.reduceEqDiff, reduceIte, Bool.not_true, Bool.not_false, true_and, and_true, Option.map_some, Option.bind_some, Int.toNat_natCast, c12r3])
  refine (Add_ok _ _ 7 12 (i64_of _ (by decide)) (i64_of _ (by decide)) G2 ha _ []).mono ?_
  rintro r h' ⟨G3, rfl, hg3, cb, rfl, hb⟩
  dsimp only at hb ⊢
  rw [ex_2] at hb ⊢
  obtain ⟨A3, c3, rfl, -, -⟩ := id hb
  (try simp -implicitDefEqProofs only [kR_e, kQ_e, push_cast, Nat.reduceBEq, Nat.reduceAdd, Nat.reduceSub, Nat.reduceMul, Nat.reduceLT, Nat.reduceLeDiff, Nat.reduceEqDiff, reduceIte, Bool.not_true, Bool.not_false, true_and, and_true, Option.map_some, Option.bind_some, Int.toNat_natCast])
  (repeat first | (with_reducible intro _) | refine go_seq ?_ | refine go_skip ?_ | refine go_lab ?_ | refine go_blk ?_ | refine go_b ?_ | refine go_n ?_ | refine go_scp ?_); refine go_r 38 43 (by decide) ?_; (try simp -implicitDefEqProofs only [kR_e, kQ_e, push_cast, Nat.reduceBEq, Nat.reduceAdd, Nat.reduceSub, Nat.reduceMul, Nat.reduceLT, Nat.reduceLeDiff, Nat.reduceEqDiff, reduceIte, Bool.not_true, Bool.not_false, true_and, and_true, Option.map_some, Option.bind_some, Int.toNat_natCast, c12r4])
  refine (Add_ok _ _ 10 14 (i64_of _ (by decide)) (i64_of _ (by decide)) G3 hb _ []).mono ?_
  rintro r h' ⟨G4, rfl, hg4, cc, rfl, hc⟩
  dsimp only at hc ⊢
  rw [ex_3] at hc ⊢
  obtain ⟨A4, c4, rfl, -, -⟩ := id hc
  (try simp -implicitDefEqProofs only [kR_e, kQ_e, push_cast, Nat.reduceBEq, Nat.reduceAdd, Nat.reduceSub, Nat.reduceMul, Nat.reduceLT, Nat.reduceLeDiff, Nat.reduceEqDiff, reduceIte, Bool.not_true, Bool.not_false, true_and, and_true, Option.map_some, Option.bind_some, Int.toNat_natCast])
  (repeat first | (with_reducible intro _) | refine go_seq ?_ | refine go_skip ?_ | refine go_lab ?_ | refine go_blk ?_ | refine go_b ?_ | refine go_n ?_ | refine go_scp ?_); refine go_r 43 49 (by decide) ?_; (try simp -implicitDefEqProofs only [kR_e, kQ_e, push_cast, Nat.reduceBEq, Nat.reduceAdd, Nat.reduceSub, Nat.reduceMul, Nat.reduceLT, Nat.reduceLeDiff, Nat.reduceEqDiff, reduceIte, Bool.not_true, Bool.not_false, true_and, and_true, Option.map_some, Option.bind_some, Int.toNat_natCast, c12r5])
  intro bk hbk
  refine (live_same exC _ bk G4 hc _ _ rfl).mono ?_; rintro _ _ ⟨rfl, rfl⟩; (try simp -implicitDefEqProofs only [kR_e, kQ_e, push_cast, Nat.reduceBEq, Nat.reduceAdd, Nat.reduceSub, Nat.reduceMul, Nat.reduceLT, Nat.reduceLeDiff, Nat.reduceEqDiff, reduceIte, Bool.not_true, Bool.not_false, true_and, and_true, Option.map_some, Option.bind_some, Int.toNat_natCast])
  (repeat first | (with_reducible intro _) | refine go_seq ?_ | refine go_skip ?_ | refine go_lab ?_ | refine go_blk ?_ | refine go_b ?_ | refine go_n ?_ | refine go_scp ?_); refine go_r 49 54 (by decide) ?_; (try simp -implicitDefEqProofs only [kR_e, kQ_e, push_cast, Nat.reduceBEq, Nat.reduceAdd, Nat.reduceSub, Nat.reduceMul, Nat.reduceLT, Nat.reduceLeDiff, Nat.reduceEqDiff, reduceIte, Bool.not_true, Bool.not_false, true_and, and_true, Option.map_some, Option.bind_some, Int.toNat_natCast, c12r6])
  refine (Down_ok exC _ 9 G4 hc _ _).mono ?_; rintro _ _ ⟨rfl, rfl⟩; (try simp -implicitDefEqProofs only [kR_e, kQ_e, push_cast, Nat.reduceBEq, Nat.reduceAdd, Nat.reduceSub, Nat.reduceMul, Nat.reduceLT, Nat.reduceLeDiff, Nat.reduceEqDiff, reduceIte, Bool.not_true, Bool.not_false, true_and, and_true, Option.map_some, Option.bind_some, Int.toNat_natCast, ex_d1, tellV])
  (repeat first | (with_reducible intro _) | refine go_seq ?_ | refine go_skip ?_ | refine go_lab ?_ | refine go_blk ?_ | refine go_b ?_ | refine go_n ?_ | refine go_scp ?_); refine go_r 54 59 (by decide) ?_; (try simp -implicitDefEqProofs only [kR_e, kQ_e, push_cast, Nat.reduceBEq, Nat.reduceAdd, Nat.reduceSub, Nat.reduceMul, Nat.reduceLT, Nat.reduceLeDiff, Nat.reduceEqDiff, reduceIte, Bool.not_true, Bool.not_false, true_and, and_true, Option.map_some, Option.bind_some, Int.toNat_natCast, c12r7])
  refine (Down_ok exC _ 30 G4 hc _ _).mono ?_; rintro _ _ ⟨rfl, rfl⟩; (try simp -implicitDefEqProofs only [kR_e, kQ_e, push_cast, Nat.reduceBEq, Nat.reduceAdd, Nat.reduceSub, Nat.reduceMul, Nat.reduceLT, Nat.reduceLeDiff, Nat.reduceEqDiff, reduceIte, Bool.not_true, Bool.not_false, true_and, and_true, Option.map_some, Option.bind_some, Int.toNat_natCast, ex_d2, tellV])
  (repeat first | (with_reducible intro _) | refine go_seq ?_ | refine go_skip ?_ | refine go_lab ?_ | refine go_blk ?_ | refine go_b ?_ | refine go_n ?_ | refine go_scp ?_); refine go_r 59 64 (by decide) ?_; (try simp -implicitDefEqProofs only [kR_e, kQ_e, push_cast, Nat.reduceBEq, Nat.reduceAdd, Nat.reduceSub, Nat.reduceMul, Nat.reduceLT, Nat.reduceLeDiff, Nat.reduceEqDiff, reduceIte, Bool.not_true, Bool.not_false, true_and, and_true, Option.map_some, Option.bind_some, Int.toNat_natCast, c12r8])
  refine (Up_ok exC _ 13 G4 hc _ _).mono ?_; rintro _ _ ⟨rfl, rfl⟩; (try simp -implicitDefEqProofs only [kR_e, kQ_e, push_cast, Nat.reduceBEq, Nat.reduceAdd, Nat.reduceSub, Nat.reduceMul, Nat.reduceLT, Nat.reduceLeDiff, Nat.reduceEqDiff, reduceIte, Bool.not_true, Bool.not_false, true_and, and_true, Option.map_some, Option.bind_some, Int.toNat_natCast, ex_u1, tellV])
  (repeat first | (with_reducible intro _) | refine go_seq ?_ | refine go_skip ?_ | refine go_lab ?_ | refine go_blk ?_ | refine go_b ?_ | refine go_n ?_ | refine go_scp ?_); refine go_r 64 69 (by decide) ?_; (try simp -implicitDefEqProofs only [kR_e, kQ_e, push_cast, Nat.reduceBEq, Nat.reduceAdd, Nat.reduceSub, Nat.reduceMul, Nat.reduceLT, Nat.reduceLeDiff, Nat.reduceEqDiff, reduceIte, Bool.not_true, Bool.not_false, true_and, and_true, Option.map_some, Option.bind_some, Int.toNat_natCast, c12r9])
  refine (Up_ok exC _ 4 G4 hc _ _).mono ?_; rintro _ _ ⟨rfl, rfl⟩; (try simp -implicitDefEqProofs only [kR_e, kQ_e, push_cast, Nat.reduceBEq, Nat.reduceAdd, Nat.reduceSub, Nat.reduceMul, Nat.reduceLT, Nat.reduceLeDiff, Nat.reduceEqDiff, reduceIte, Bool.not_true, Bool.not_false, true_and, and_true, Option.map_some, Option.bind_some, Int.toNat_natCast, ex_u2, tellV])
  (repeat first | (with_reducible intro _) | refine go_seq ?_ | refine go_skip ?_ | refine go_lab ?_ | refine go_blk ?_ | refine go_b ?_ | refine go_n ?_ | refine go_scp ?_); refine go_r 69 74 (by decide) ?_; (try simp -implicitDefEqProofs only [kR_e, kQ_e, push_cast, Nat.reduceBEq, Nat.reduceAdd, Nat.reduceSub, Nat.reduceMul, Nat.reduceLT, Nat.reduceLeDiff, Nat.reduceEqDiff, reduceIte, Bool.not_true, Bool.not_false, true_and, and_true, Option.map_some, Option.bind_some, Int.toNat_natCast, c12r10])
  refine (Add_ok exC _ 9 20 (i64_of _ (by decide)) (i64_of _ (by decide)) G4 hc _ []).mono ?_
  rintro r h' ⟨G5, rfl, hg5, cd, rfl, hd⟩
  rw [ex_4] at hd ⊢
  obtain ⟨A5, c5, rfl, -, -⟩ := id hd
  (try simp -implicitDefEqProofs only [kR_e, kQ_e, push_cast, Nat.reduceBEq, Nat.reduceAdd, Nat.reduceSub, Nat.reduceMul, Nat.reduceLT, Nat.reduceLeDiff, Nat.reduceEqDiff, reduceIte, Bool.not_true, Bool.not_false, true_and, and_true, Option.map_some, Option.bind_some, Int.toNat_natCast])
  have hc5 := hc.le hg5
  (repeat first | (with_reducible intro _) | refine go_seq ?_ | refine go_skip ?_ | refine go_lab ?_ | refine go_blk ?_ | refine go_b ?_ | refine go_n ?_ | refine go_scp ?_); refine go_r 74 80 (by decide) ?_; (try simp -implicitDefEqProofs only [kR_e, kQ_e, push_cast, Nat.reduceBEq, Nat.reduceAdd, Nat.reduceSub, Nat.reduceMul, Nat.reduceLT, Nat.reduceLeDiff, Nat.reduceEqDiff, reduceIte, Bool.not_true, Bool.not_false, true_and, and_true, Option.map_some, Option.bind_some, Int.toNat_natCast, c12r11])
  refine (Chain_ok exC exC _ _ G5 hc5 hc5 _ []).mono ?_
  rintro r h' ⟨G6, rfl, hg6, cs, rfl, hs⟩
  rw [ex_ch] at hs ⊢
  obtain ⟨A6, c6, rfl, -, -⟩ := id hs
  (try simp -implicitDefEqProofs only [kR_e, kQ_e, push_cast, Nat.reduceBEq, Nat.reduceAdd, Nat.reduceSub, Nat.reduceMul, Nat.reduceLT, Nat.reduceLeDiff, Nat.reduceEqDiff, reduceIte, Bool.not_true, Bool.not_false, true_and, and_true, Option.map_some, Option.bind_some, Int.toNat_natCast])
  have hc6 := hc5.le hg6
  (repeat first | (with_reducible intro _) | refine go_seq ?_ | refine go_skip ?_ | refine go_lab ?_ | refine go_blk ?_ | refine go_b ?_ | refine go_n ?_ | refine go_scp ?_); refine go_r 80 86 (by decide) ?_; (try simp -implicitDefEqProofs only [kR_e, kQ_e, push_cast, Nat.reduceBEq, Nat.reduceAdd, Nat.reduceSub, Nat.reduceMul, Nat.reduceLT, Nat.reduceLeDiff, Nat.reduceEqDiff, reduceIte, Bool.not_true, Bool.not_false, true_and, and_true, Option.map_some, Option.bind_some, Int.toNat_natCast, c12r12])
  intro bk2 hbk2
  refine (live_same exC _ bk2 G6 hs _ _ rfl).mono ?_; rintro _ _ ⟨rfl, rfl⟩; (try simp -implicitDefEqProofs only [kR_e, kQ_e, push_cast, Nat.reduceBEq, Nat.reduceAdd, Nat.reduceSub, Nat.reduceMul, Nat.reduceLT, Nat.reduceLeDiff, Nat.reduceEqDiff, reduceIte, Bool.not_true, Bool.not_false, true_and, and_true, Option.map_some, Option.bind_some, Int.toNat_natCast])
  (repeat first | (with_reducible intro _) | refine go_seq ?_ | refine go_skip ?_ | refine go_lab ?_ | refine go_blk ?_ | refine go_b ?_ | refine go_n ?_ | refine go_scp ?_); refine go_r 86 88 (by decide) ?_; (try simp -implicitDefEqProofs only [kR_e, kQ_e, push_cast, Nat.reduceBEq, Nat.reduceAdd, Nat.reduceSub, Nat.reduceMul, Nat.reduceLT, Nat.reduceLeDiff, Nat.reduceEqDiff, reduceIte, Bool.not_true, Bool.not_false, true_and, and_true, Option.map_some, Option.bind_some, Int.toNat_natCast, c12r13])
  refine (Trim_ok exC _ 12 G6 hc6 _ []).mono ?_
  rintro r h' ⟨G7, rfl, hg7, cr, rfl, hr⟩
  rw [ex_tr] at hr
  obtain ⟨A7, c7, rfl, -, -⟩ := id hr
  (try simp -implicitDefEqProofs only [kR_e, kQ_e, push_cast, Nat.reduceBEq, Nat.reduceAdd, Nat.reduceSub, Nat.reduceMul, Nat.reduceLT, Nat.reduceLeDiff, Nat.reduceEqDiff, reduceIte, Bool.not_true, Bool.not_false, true_and, and_true, Option.map_some, Option.bind_some, Int.toNat_natCast])
  have hc7 := hc6.le hg7
  (repeat first | (with_reducible intro _) | refine go_seq ?_ | refine go_skip ?_ | refine go_lab ?_ | refine go_blk ?_ | refine go_b ?_ | refine go_n ?_ | refine go_scp ?_); refine go_r 88 157 (by decide) ?_; (try simp -implicitDefEqProofs only [kR_e, kQ_e, push_cast, Nat.reduceBEq, Nat.reduceAdd, Nat.reduceSub, Nat.reduceMul, Nat.reduceLT, Nat.reduceLeDiff, Nat.reduceEqDiff, reduceIte, Bool.not_true, Bool.not_false, true_and, and_true, Option.map_some, Option.bind_some, Int.toNat_natCast, c12r14])
  refine (Check_ok exC _ G7 hc7 _ _).mono ?_; rintro _ _ ⟨rfl, rfl⟩; (try simp -implicitDefEqProofs only [kR_e, kQ_e, push_cast, Nat.reduceBEq, Nat.reduceAdd, Nat.reduceSub, Nat.reduceMul, Nat.reduceLT, Nat.reduceLeDiff, Nat.reduceEqDiff, reduceIte, Bool.not_true, Bool.not_false, true_and, and_true, Option.map_some, Option.bind_some, Int.toNat_natCast, ex_c])
  refine (Check_ok ⟨0, []⟩ _ G7 (TE.zero G7 0 i64_0) _ _).mono ?_; rintro _ _ ⟨rfl, rfl⟩; (try simp -implicitDefEqProofs only [kR_e, kQ_e, push_cast, Nat.reduceBEq, Nat.reduceAdd, Nat.reduceSub, Nat.reduceMul, Nat.reduceLT, Nat.reduceLeDiff, Nat.reduceEqDiff, reduceIte, Bool.not_true, Bool.not_false, true_and, and_true, Option.map_some, Option.bind_some, Int.toNat_natCast, ex_0])
  (repeat first | (with_reducible intro _) | refine go_seq ?_ | refine go_skip ?_ | refine go_lab ?_ | refine go_blk ?_ | refine go_b ?_ | refine go_n ?_ | refine go_scp ?_)
  refine go_ret (retQ_v rfl ?_); simp only [push_cast, Nat.reduceBEq]
end Go.Proofs.Ytbddbogdhkikoaa

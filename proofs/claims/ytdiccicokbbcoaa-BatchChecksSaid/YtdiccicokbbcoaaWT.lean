/- Bytes, part 20 of a proof: two laws, walked. No condition. -/
import Derived.Test.YtdiccicokbbcoaaWQ
set_option linter.unusedSimpArgs false
set_option linter.unusedVariables false
namespace Go.Proofs.Ytdiccicokbbcoaa
open Go Go.Kx
theorem F3 : Fun Try.prog 3 30 v3 c3 o3 := Fun.mk' Try.func3 Try.ntmps3 (by kernel_rfl) (by kernel_rfl) s3 q3
theorem F4 : Fun Try.prog 4 20 v4 c4 o4 := Fun.mk' Try.func4 Try.ntmps4 (by kernel_rfl) (by kernel_rfl) s4 q4
theorem BatchWrites_ok (x : Batch) (cs : List Value) (G : Nat → Option Obj) (hx : BE G x cs) : FnS Try.prog 3 #[.agg cs.toArray] G (.bool true) := by
  have h1 := Few_ok x cs G hx
  have h2 := BPut_ok x cs G hx
  have h3 := fun G' hg => RBPut_ok x cs G' (BE.le hg hx)
  obtain ⟨A, c, rfl, -⟩ := hx
  refine F3.fnS (by simp) (go_of ?_)
  unfold c3
  unfold cellH at h1 h2 h3 ⊢
  (repeat first | (with_reducible intro _) | refine go_seq ?_ | refine go_skip ?_ | refine go_lab ?_ | refine go_blk ?_ | refine go_b ?_ | refine go_n ?_ | refine go_scp ?_); refine go_r 0 0 (by decide) ?_; (try simp -implicitDefEqProofs only [kR_e, kQ_e, push_cast, Nat.reduceBEq, Nat.reduceAdd, Nat.reduceSub, Nat.reduceMul, Nat.reduceLT, Nat.reduceLeDiff, Nat.reduceEqDiff, reduceIte, Bool.not_true, Bool.not_false, true_and, and_true, Option.map_some, Option.bind_some, Int.toNat_natCast, c3r0])
  (repeat first | (with_reducible intro _) | refine go_seq ?_ | refine go_skip ?_ | refine go_lab ?_ | refine go_blk ?_ | refine go_b ?_ | refine go_n ?_ | refine go_scp ?_); refine go_r 7 8 (by decide) ?_; (try simp -implicitDefEqProofs only [kR_e, kQ_e, push_cast, Nat.reduceBEq, Nat.reduceAdd, Nat.reduceSub, Nat.reduceMul, Nat.reduceLT, Nat.reduceLeDiff, Nat.reduceEqDiff, reduceIte, Bool.not_true, Bool.not_false, true_and, and_true, Option.map_some, Option.bind_some, Int.toNat_natCast, c3r1])
  refine (live_ok _ _ _).mono ?_; rintro _ _ ⟨rfl, rfl⟩; (try simp -implicitDefEqProofs only [kR_e, kQ_e, push_cast, Nat.reduceBEq, Nat.reduceAdd, Nat.reduceSub, Nat.reduceMul, Nat.reduceLT, Nat.reduceLeDiff, Nat.reduceEqDiff, reduceIte, Bool.not_true, Bool.not_false, true_and, and_true, Option.map_some, Option.bind_some, Int.toNat_natCast])
  (repeat first | (with_reducible intro _) | refine go_seq ?_ | refine go_skip ?_ | refine go_lab ?_ | refine go_blk ?_ | refine go_b ?_ | refine go_n ?_ | refine go_scp ?_); refine go_c ?_; (try simp -implicitDefEqProofs only [kR_e, kQ_e, push_cast, Nat.reduceBEq, Nat.reduceAdd, Nat.reduceSub, Nat.reduceMul, Nat.reduceLT, Nat.reduceLeDiff, Nat.reduceEqDiff, reduceIte, Bool.not_true, Bool.not_false, true_and, and_true, Option.map_some, Option.bind_some, Int.toNat_natCast])
  (repeat first | (with_reducible intro _) | refine go_skip ?_ | refine go_b ?_)
  (repeat first | (with_reducible intro _) | refine go_seq ?_ | refine go_skip ?_ | refine go_lab ?_ | refine go_blk ?_ | refine go_b ?_ | refine go_n ?_ | refine go_scp ?_); refine go_r 9 11 (by decide) ?_; (try simp -implicitDefEqProofs only [kR_e, kQ_e, push_cast, Nat.reduceBEq, Nat.reduceAdd, Nat.reduceSub, Nat.reduceMul, Nat.reduceLT, Nat.reduceLeDiff, Nat.reduceEqDiff, reduceIte, Bool.not_true, Bool.not_false, true_and, and_true, Option.map_some, Option.bind_some, Int.toNat_natCast, c3r3])
  refine (h1 _ _).mono ?_
  rintro r h' ⟨⟨b, rfl, -⟩, rfl⟩
  (try simp -implicitDefEqProofs only [kR_e, kQ_e, push_cast, Nat.reduceBEq, Nat.reduceAdd, Nat.reduceSub, Nat.reduceMul, Nat.reduceLT, Nat.reduceLeDiff, Nat.reduceEqDiff, reduceIte, Bool.not_true, Bool.not_false, true_and, and_true, Option.map_some, Option.bind_some, Int.toNat_natCast])
  (repeat first | (with_reducible intro _) | refine go_seq ?_ | refine go_skip ?_ | refine go_lab ?_ | refine go_blk ?_ | refine go_b ?_ | refine go_n ?_ | refine go_scp ?_); refine go_c ?_; (try simp -implicitDefEqProofs only [kR_e, kQ_e, push_cast, Nat.reduceBEq, Nat.reduceAdd, Nat.reduceSub, Nat.reduceMul, Nat.reduceLT, Nat.reduceLeDiff, Nat.reduceEqDiff, reduceIte, Bool.not_true, Bool.not_false, true_and, and_true, Option.map_some, Option.bind_some, Int.toNat_natCast])
  refine gb (fun k1 => ?_) (fun k1 => ?_)
  · (repeat first | (with_reducible intro _) | refine go_seq ?_ | refine go_skip ?_ | refine go_lab ?_ | refine go_blk ?_ | refine go_b ?_ | refine go_n ?_ | refine go_scp ?_); refine go_r 0 0 (by decide) ?_; (try simp -implicitDefEqProofs only [kR_e, kQ_e, push_cast, Nat.reduceBEq, Nat.reduceAdd, Nat.reduceSub, Nat.reduceMul, Nat.reduceLT, Nat.reduceLeDiff, Nat.reduceEqDiff, reduceIte, Bool.not_true, Bool.not_false, true_and, and_true, Option.map_some, Option.bind_some, Int.toNat_natCast, c3r4])
    (repeat first | (with_reducible intro _) | refine go_seq ?_ | refine go_skip ?_ | refine go_lab ?_ | refine go_blk ?_ | refine go_b ?_ | refine go_n ?_ | refine go_scp ?_)
    refine go_ret (retQ_v rfl ?_); simp only [push_cast, Nat.reduceBEq]
  (repeat first | (with_reducible intro _) | refine go_skip ?_ | refine go_b ?_)
  (repeat first | (with_reducible intro _) | refine go_seq ?_ | refine go_skip ?_ | refine go_lab ?_ | refine go_blk ?_ | refine go_b ?_ | refine go_n ?_ | refine go_scp ?_); refine go_r 12 17 (by decide) ?_; (try simp -implicitDefEqProofs only [kR_e, kQ_e, push_cast, Nat.reduceBEq, Nat.reduceAdd, Nat.reduceSub, Nat.reduceMul, Nat.reduceLT, Nat.reduceLeDiff, Nat.reduceEqDiff, reduceIte, Bool.not_true, Bool.not_false, true_and, and_true, Option.map_some, Option.bind_some, Int.toNat_natCast, c3r5])
  refine (h2 _ []).mono ?_
  rintro r h' ⟨G1, L', rfl, hg1, u, rfl, ys, hys, rfl⟩
  (try simp -implicitDefEqProofs only [kR_e, kQ_e, push_cast, Nat.reduceBEq, Nat.reduceAdd, Nat.reduceSub, Nat.reduceMul, Nat.reduceLT, Nat.reduceLeDiff, Nat.reduceEqDiff, reduceIte, Bool.not_true, Bool.not_false, true_and, and_true, Option.map_some, Option.bind_some, Int.toNat_natCast])
  intro _
  (repeat (with_reducible intro _)); refine go_seq ?_
  refine go_gx (gx_slv_at [] _ (by decide) hys) ?_
  rintro h' ⟨G2, rfl, hg2, hv2⟩
  (repeat first | (with_reducible intro _) | refine go_seq ?_ | refine go_skip ?_ | refine go_lab ?_ | refine go_blk ?_ | refine go_b ?_ | refine go_n ?_ | refine go_scp ?_); refine go_r 17 22 (by decide) ?_; (try simp -implicitDefEqProofs only [kR_e, kQ_e, push_cast, Nat.reduceBEq, Nat.reduceAdd, Nat.reduceSub, Nat.reduceMul, Nat.reduceLT, Nat.reduceLeDiff, Nat.reduceEqDiff, reduceIte, Bool.not_true, Bool.not_false, true_and, and_true, Option.map_some, Option.bind_some, Int.toNat_natCast, c3r6])
  refine (h3 G2 (hg1.trans hg2) _ []).mono ?_
  rintro r h' ⟨G3, L', rfl, hg3, u3, rfl, ys3, hys3, rfl⟩
  (try simp -implicitDefEqProofs only [kR_e, kQ_e, push_cast, Nat.reduceBEq, Nat.reduceAdd, Nat.reduceSub, Nat.reduceMul, Nat.reduceLT, Nat.reduceLeDiff, Nat.reduceEqDiff, reduceIte, Bool.not_true, Bool.not_false, true_and, and_true, Option.map_some, Option.bind_some, Int.toNat_natCast])
  intro _
  (repeat (with_reducible intro _)); refine go_seq ?_
  refine go_gx (gx_slv_at [] _ (by decide) hys3) ?_
  rintro h' ⟨G4, rfl, hg4, hv4⟩
  (repeat first | (with_reducible intro _) | refine go_seq ?_ | refine go_skip ?_ | refine go_lab ?_ | refine go_blk ?_ | refine go_b ?_ | refine go_n ?_ | refine go_scp ?_); refine go_r 22 30 (by decide) ?_; (try simp -implicitDefEqProofs only [kR_e, kQ_e, push_cast, Nat.reduceBEq, Nat.reduceAdd, Nat.reduceSub, Nat.reduceMul, Nat.reduceLT, Nat.reduceLeDiff, Nat.reduceEqDiff, reduceIte, Bool.not_true, Bool.not_false, true_and, and_true, Option.map_some, Option.bind_some, Int.toNat_natCast, c3r7])
  refine (BSame_ok _ _ _ _ _ (SB.le hv2 (hg3.trans hg4)) hv4 _ _).mono ?_; rintro _ _ ⟨rfl, rfl⟩; (try simp -implicitDefEqProofs only [kR_e, kQ_e, push_cast, Nat.reduceBEq, Nat.reduceAdd, Nat.reduceSub, Nat.reduceMul, Nat.reduceLT, Nat.reduceLeDiff, Nat.reduceEqDiff, reduceIte, Bool.not_true, Bool.not_false, true_and, and_true, Option.map_some, Option.bind_some, Int.toNat_natCast])
  (repeat first | (with_reducible intro _) | refine go_seq ?_ | refine go_skip ?_ | refine go_lab ?_ | refine go_blk ?_ | refine go_b ?_ | refine go_n ?_ | refine go_scp ?_)
  refine go_ret (retQ_v rfl ?_); simp only [push_cast, Nat.reduceBEq]
theorem BatchChecks_ok (x : Batch) (cs : List Value) (G : Nat → Option Obj) (hx : BE G x cs) : FnS Try.prog 4 #[.agg cs.toArray] G (.bool true) := by
  have h1 := Few_ok x cs G hx
  have h2 := BCheck_ok x cs G hx
  have h3 := RBCheck_ok x cs G hx
  have h4 := Size_ok x cs G hx
  have h5 := RSize_ok x cs G hx
  obtain ⟨A, c, rfl, -⟩ := hx
  refine F4.fnS (by simp) (go_of ?_)
  unfold c4
  unfold cellH at h1 h2 h3 h4 h5 ⊢
  (repeat first | (with_reducible intro _) | refine go_seq ?_ | refine go_skip ?_ | refine go_lab ?_ | refine go_blk ?_ | refine go_b ?_ | refine go_n ?_ | refine go_scp ?_); refine go_r 0 0 (by decide) ?_; (try simp -implicitDefEqProofs only [kR_e, kQ_e, push_cast, Nat.reduceBEq, Nat.reduceAdd, Nat.reduceSub, Nat.reduceMul, Nat.reduceLT, Nat.reduceLeDiff, Nat.reduceEqDiff, reduceIte, Bool.not_true, Bool.not_false, true_and, and_true, Option.map_some, Option.bind_some, Int.toNat_natCast, c4r0])
  (repeat first | (with_reducible intro _) | refine go_seq ?_ | refine go_skip ?_ | refine go_lab ?_ | refine go_blk ?_ | refine go_b ?_ | refine go_n ?_ | refine go_scp ?_); refine go_r 3 4 (by decide) ?_; (try simp -implicitDefEqProofs only [kR_e, kQ_e, push_cast, Nat.reduceBEq, Nat.reduceAdd, Nat.reduceSub, Nat.reduceMul, Nat.reduceLT, Nat.reduceLeDiff, Nat.reduceEqDiff, reduceIte, Bool.not_true, Bool.not_false, true_and, and_true, Option.map_some, Option.bind_some, Int.toNat_natCast, c4r1])
  refine (live_ok _ _ _).mono ?_; rintro _ _ ⟨rfl, rfl⟩; (try simp -implicitDefEqProofs only [kR_e, kQ_e, push_cast, Nat.reduceBEq, Nat.reduceAdd, Nat.reduceSub, Nat.reduceMul, Nat.reduceLT, Nat.reduceLeDiff, Nat.reduceEqDiff, reduceIte, Bool.not_true, Bool.not_false, true_and, and_true, Option.map_some, Option.bind_some, Int.toNat_natCast])
  (repeat first | (with_reducible intro _) | refine go_seq ?_ | refine go_skip ?_ | refine go_lab ?_ | refine go_blk ?_ | refine go_b ?_ | refine go_n ?_ | refine go_scp ?_); refine go_c ?_; (try simp -implicitDefEqProofs only [kR_e, kQ_e, push_cast, Nat.reduceBEq, Nat.reduceAdd, Nat.reduceSub, Nat.reduceMul, Nat.reduceLT, Nat.reduceLeDiff, Nat.reduceEqDiff, reduceIte, Bool.not_true, Bool.not_false, true_and, and_true, Option.map_some, Option.bind_some, Int.toNat_natCast])
  (repeat first | (with_reducible intro _) | refine go_skip ?_ | refine go_b ?_)
  (repeat first | (with_reducible intro _) | refine go_seq ?_ | refine go_skip ?_ | refine go_lab ?_ | refine go_blk ?_ | refine go_b ?_ | refine go_n ?_ | refine go_scp ?_); refine go_r 5 7 (by decide) ?_; (try simp -implicitDefEqProofs only [kR_e, kQ_e, push_cast, Nat.reduceBEq, Nat.reduceAdd, Nat.reduceSub, Nat.reduceMul, Nat.reduceLT, Nat.reduceLeDiff, Nat.reduceEqDiff, reduceIte, Bool.not_true, Bool.not_false, true_and, and_true, Option.map_some, Option.bind_some, Int.toNat_natCast, c4r3])
  refine (h1 _ _).mono ?_
  rintro r h' ⟨⟨b, rfl, -⟩, rfl⟩
  (try simp -implicitDefEqProofs only [kR_e, kQ_e, push_cast, Nat.reduceBEq, Nat.reduceAdd, Nat.reduceSub, Nat.reduceMul, Nat.reduceLT, Nat.reduceLeDiff, Nat.reduceEqDiff, reduceIte, Bool.not_true, Bool.not_false, true_and, and_true, Option.map_some, Option.bind_some, Int.toNat_natCast])
  (repeat first | (with_reducible intro _) | refine go_seq ?_ | refine go_skip ?_ | refine go_lab ?_ | refine go_blk ?_ | refine go_b ?_ | refine go_n ?_ | refine go_scp ?_); refine go_c ?_; (try simp -implicitDefEqProofs only [kR_e, kQ_e, push_cast, Nat.reduceBEq, Nat.reduceAdd, Nat.reduceSub, Nat.reduceMul, Nat.reduceLT, Nat.reduceLeDiff, Nat.reduceEqDiff, reduceIte, Bool.not_true, Bool.not_false, true_and, and_true, Option.map_some, Option.bind_some, Int.toNat_natCast])
  refine gb (fun k1 => ?_) (fun k1 => ?_)
  · (repeat first | (with_reducible intro _) | refine go_seq ?_ | refine go_skip ?_ | refine go_lab ?_ | refine go_blk ?_ | refine go_b ?_ | refine go_n ?_ | refine go_scp ?_); refine go_r 0 0 (by decide) ?_; (try simp -implicitDefEqProofs only [kR_e, kQ_e, push_cast, Nat.reduceBEq, Nat.reduceAdd, Nat.reduceSub, Nat.reduceMul, Nat.reduceLT, Nat.reduceLeDiff, Nat.reduceEqDiff, reduceIte, Bool.not_true, Bool.not_false, true_and, and_true, Option.map_some, Option.bind_some, Int.toNat_natCast, c4r4])
    (repeat first | (with_reducible intro _) | refine go_seq ?_ | refine go_skip ?_ | refine go_lab ?_ | refine go_blk ?_ | refine go_b ?_ | refine go_n ?_ | refine go_scp ?_)
    refine go_ret (retQ_v rfl ?_); simp only [push_cast, Nat.reduceBEq]
  (repeat first | (with_reducible intro _) | refine go_skip ?_ | refine go_b ?_)
  (repeat first | (with_reducible intro _) | refine go_seq ?_ | refine go_skip ?_ | refine go_lab ?_ | refine go_blk ?_ | refine go_b ?_ | refine go_n ?_ | refine go_scp ?_); refine go_x _ (List.Sublist.refl _) (by decide) ?_; (try simp -implicitDefEqProofs only [kR_e, kQ_e, push_cast, Nat.reduceBEq, Nat.reduceAdd, Nat.reduceSub, Nat.reduceMul, Nat.reduceLT, Nat.reduceLeDiff, Nat.reduceEqDiff, reduceIte, Bool.not_true, Bool.not_false, true_and, and_true, Option.map_some, Option.bind_some, Int.toNat_natCast, c4r5])
  refine (h2 _ _).mono ?_; rintro _ _ ⟨rfl, rfl⟩; (try simp -implicitDefEqProofs only [kR_e, kQ_e, push_cast, Nat.reduceBEq, Nat.reduceAdd, Nat.reduceSub, Nat.reduceMul, Nat.reduceLT, Nat.reduceLeDiff, Nat.reduceEqDiff, reduceIte, Bool.not_true, Bool.not_false, true_and, and_true, Option.map_some, Option.bind_some, Int.toNat_natCast])
  refine (h3 _ _).mono ?_; rintro _ _ ⟨rfl, rfl⟩; (try simp -implicitDefEqProofs only [kR_e, kQ_e, push_cast, Nat.reduceBEq, Nat.reduceAdd, Nat.reduceSub, Nat.reduceMul, Nat.reduceLT, Nat.reduceLeDiff, Nat.reduceEqDiff, reduceIte, Bool.not_true, Bool.not_false, true_and, and_true, Option.map_some, Option.bind_some, Int.toNat_natCast])
  refine (h4 _ _).mono ?_; rintro _ _ ⟨rfl, rfl⟩; (try simp -implicitDefEqProofs only [kR_e, kQ_e, push_cast, Nat.reduceBEq, Nat.reduceAdd, Nat.reduceSub, Nat.reduceMul, Nat.reduceLT, Nat.reduceLeDiff, Nat.reduceEqDiff, reduceIte, Bool.not_true, Bool.not_false, true_and, and_true, Option.map_some, Option.bind_some, Int.toNat_natCast])
  refine (h5 _ _).mono ?_; rintro _ _ ⟨rfl, rfl⟩; (try simp -implicitDefEqProofs only [kR_e, kQ_e, push_cast, Nat.reduceBEq, Nat.reduceAdd, Nat.reduceSub, Nat.reduceMul, Nat.reduceLT, Nat.reduceLeDiff, Nat.reduceEqDiff, reduceIte, Bool.not_true, Bool.not_false, true_and, and_true, Option.map_some, Option.bind_some, Int.toNat_natCast])
  (repeat first | (with_reducible intro _) | refine go_seq ?_ | refine go_skip ?_ | refine go_lab ?_ | refine go_blk ?_ | refine go_b ?_ | refine go_n ?_ | refine go_scp ?_)
  refine go_ret (retQ_v rfl ?_); simp only [push_cast, Nat.reduceBEq]
end Go.Proofs.Ytdiccicokbbcoaa

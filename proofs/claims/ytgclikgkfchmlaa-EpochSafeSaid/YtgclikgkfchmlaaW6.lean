/- What functions of the epoch chapter compute: part 6 of a proof. No condition. -/
import Derived.Test.YtgclikgkfchmlaaW5
set_option linter.unusedSimpArgs false
set_option linter.unusedVariables false
namespace Go.Proofs.Ytgclikgkfchmlaa
open Go Go.Kx
theorem F11 : Fun Try.prog 11 34 v11 c11 o11 := Fun.mk' Try.func11 Try.ntmps11 (by kernel_rfl) (by kernel_rfl) s11 q11
def exL : List Epo := [(1, 0), (3, 10)]
theorem exL_chk : chkN exL = 0 := by
  rw [chkN, if_pos]
  intro i x hi hx
  match i, hi with
  | 0, _ => cases hx; exact ⟨rfl, fun p h => absurd h (by omega)⟩
  | 1, _ => cases hx; exact ⟨rfl, fun p _ hp => by cases hp; decide⟩
theorem exL_end {w o : Int} (h : EndR exL 2 15 w o) : w = 1 ∧ o = 10 := by
  rcases h with ⟨h, _⟩ | ⟨_, j, ⟨h1, h2, h3⟩, h4⟩
  · exact absurd exL_chk h
  · match j, h1 with
    | 0, _ => exact absurd (h2 _ rfl) (by decide)
    | 1, _ =>
      rcases h4 with ⟨h4, _⟩ | ⟨x, _, h5, h6, h7⟩
      · cases h4
      · cases h5; exact ⟨h6, h7⟩
    | 2, _ => exact absurd (h3 _ (by omega) rfl) (by decide)
theorem exL_put : putM exL 4 12 = ([(1, 0), (3, 10), (4, 12)], 0) := by
  rw [putM_eq exL_chk rfl]
  rfl
theorem live_ok (G : Nat → Option Obj) : FnS Try.prog 11 #[] G (.bool true) := by
  refine F11.fnS (by simp) (go_of ?_)
  unfold c11
  (repeat first | (with_reducible intro _) | refine go_seq ?_ | refine go_skip ?_ | refine go_lab ?_ | refine go_blk ?_ | refine go_b ?_); refine go_r 0 0 (by decide) ?_; (try simp -implicitDefEqProofs only [kR_e, kQ_e, push_cast, Nat.reduceBEq, Nat.reduceAdd, Nat.reduceSub, Nat.reduceMul, Nat.reduceLT, Nat.reduceLeDiff, Nat.reduceEqDiff, reduceIte, Bool.not_true, Bool.not_false, true_and, and_true, Option.map_some, Option.bind_some, Int.toNat_natCast, c11r0])
  (repeat first | (with_reducible intro _) | refine go_seq ?_ | refine go_skip ?_ | refine go_lab ?_ | refine go_blk ?_ | refine go_b ?_); refine go_r 6 9 (by decide) ?_; (try simp -implicitDefEqProofs only [kR_e, kQ_e, push_cast, Nat.reduceBEq, Nat.reduceAdd, Nat.reduceSub, Nat.reduceMul, Nat.reduceLT, Nat.reduceLeDiff, Nat.reduceEqDiff, reduceIte, Bool.not_true, Bool.not_false, true_and, and_true, Option.map_some, Option.bind_some, Int.toNat_natCast, c11r1])
  intro b hb
  (repeat first | (with_reducible intro _) | refine go_seq ?_ | refine go_skip ?_ | refine go_lab ?_ | refine go_blk ?_ | refine go_b ?_)
  refine go_gx (gx_slv (E := EE) (xs := exL) (by decide) (.cons (cs := [.int .i64 1, .int .i64 0]) ⟨rfl, by unfold I64; decide, by unfold I64; decide⟩ rfl (.cons (cs := [.int .i64 3, .int .i64 10]) ⟨rfl, by unfold I64; decide, by unfold I64; decide⟩ rfl .nil))) ?_
  rintro h' ⟨G', rfl, hg, hl⟩
  (repeat first | (with_reducible intro _) | refine go_seq ?_ | refine go_skip ?_ | refine go_lab ?_ | refine go_blk ?_ | refine go_b ?_); refine go_r 9 14 (by decide) ?_; (try simp -implicitDefEqProofs only [kR_e, kQ_e, push_cast, Nat.reduceBEq, Nat.reduceAdd, Nat.reduceSub, Nat.reduceMul, Nat.reduceLT, Nat.reduceLeDiff, Nat.reduceEqDiff, reduceIte, Bool.not_true, Bool.not_false, true_and, and_true, Option.map_some, Option.bind_some, Int.toNat_natCast, c11r2])
  refine (EndOf_ok exL 2 15 _ G' hl (by decide) [] []).mono ?_
  rintro v h' ⟨⟨w, o, rfl, hw⟩, rfl⟩
  obtain ⟨rfl, rfl⟩ := exL_end hw
  (try simp -implicitDefEqProofs only [kR_e, kQ_e, push_cast, Nat.reduceBEq, Nat.reduceAdd, Nat.reduceSub, Nat.reduceMul, Nat.reduceLT, Nat.reduceLeDiff, Nat.reduceEqDiff, reduceIte, Bool.not_true, Bool.not_false, true_and, and_true, Option.map_some, Option.bind_some, Int.toNat_natCast])
  (repeat first | (with_reducible intro _) | refine go_seq ?_ | refine go_skip ?_ | refine go_lab ?_ | refine go_blk ?_ | refine go_b ?_); refine go_r 14 19 (by decide) ?_; (try simp -implicitDefEqProofs only [kR_e, kQ_e, push_cast, Nat.reduceBEq, Nat.reduceAdd, Nat.reduceSub, Nat.reduceMul, Nat.reduceLT, Nat.reduceLeDiff, Nat.reduceEqDiff, reduceIte, Bool.not_true, Bool.not_false, true_and, and_true, Option.map_some, Option.bind_some, Int.toNat_natCast, c11r3])
  refine (Put_ok exL 4 12 _ G' hl (by decide) (by unfold I64; decide) (by unfold I64; decide) [] []).mono ?_
  rintro v h' ⟨G2, L2, rfl, hg2, u, rfl, ys, hys, rfl⟩
  rw [exL_put]
  (try simp -implicitDefEqProofs only [kR_e, kQ_e, push_cast, Nat.reduceBEq, Nat.reduceAdd, Nat.reduceSub, Nat.reduceMul, Nat.reduceLT, Nat.reduceLeDiff, Nat.reduceEqDiff, reduceIte, Bool.not_true, Bool.not_false, true_and, and_true, Option.map_some, Option.bind_some, Int.toNat_natCast])
  (repeat first | (with_reducible intro _) | refine go_seq ?_ | refine go_skip ?_ | refine go_lab ?_ | refine go_blk ?_ | refine go_b ?_)
  refine go_gx (gx_knowS (v := u) (.head _)) ?_
  rintro h' ⟨rfl, A, c, rfl, h1, h2⟩
  (repeat first | (with_reducible intro _) | refine go_seq ?_ | refine go_skip ?_ | refine go_lab ?_ | refine go_blk ?_ | refine go_b ?_); refine go_r 19 34 (by decide) ?_; (try simp -implicitDefEqProofs only [kR_e, kQ_e, push_cast, Nat.reduceBEq, Nat.reduceAdd, Nat.reduceSub, Nat.reduceMul, Nat.reduceLT, Nat.reduceLeDiff, Nat.reduceEqDiff, reduceIte, Bool.not_true, Bool.not_false, true_and, and_true, Option.map_some, Option.bind_some, Int.toNat_natCast, c11r4])
  (repeat first | (with_reducible intro _) | refine go_seq ?_ | refine go_skip ?_ | refine go_lab ?_ | refine go_blk ?_ | refine go_b ?_)
  refine go_ret (retQ_v rfl ?_); simp only [push_cast, Nat.reduceBEq]
  rfl
end Go.Proofs.Ytgclikgkfchmlaa

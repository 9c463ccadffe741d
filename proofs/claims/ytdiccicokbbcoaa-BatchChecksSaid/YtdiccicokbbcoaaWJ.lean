/- Bytes, part 10 of a proof: batches that have form. No condition. -/
import Derived.Test.YtdiccicokbbcoaaWI
set_option linter.unusedSimpArgs false
set_option linter.unusedVariables false
namespace Go.Proofs.Ytdiccicokbbcoaa
open Go Go.Kx
theorem F30 : Fun Try.prog 30 131 v30 c30 o30 := Fun.mk' Try.func30 Try.ntmps30 (by kernel_rfl) (by kernel_rfl) s30 q30

structure Batch where
  base : Int
  last : Int
  src : Int
  epoch : Int
  pid : Int
  gen : Int
  seq : Int
  txn : Bool
  ctl : Int
  recs : List Rec
def cellH (x : Batch) (v : Value) : List Value := [.int .i64 x.base, .int .i64 x.last, .int .i64 x.src, .int .i64 x.epoch, .int .i64 x.pid, .int .i64 x.gen, .int .i64 x.seq, .bool x.txn, .int .i64 x.ctl, v]
def BE (G : Nat → Option Obj) (x : Batch) (cs : List Value) : Prop :=
  ∃ A c, cs = cellH x (.slice A x.recs.length c) ∧ (x.recs.length ≤ c ∧ c ≤ maxLen ∧ SlA G RR 5 A x.recs) ∧ I64 x.base ∧ I64 x.last ∧ I64 x.src ∧ I64 x.epoch ∧ I64 x.pid ∧ I64 x.gen ∧ I64 x.seq ∧ I64 x.ctl
theorem BE.le {G G' : Nat → Option Obj} (hg : Gle G G') {x : Batch} {cs : List Value} (h : BE G x cs) : BE G' x cs := by
  obtain ⟨A, c, h1, ⟨h2, h3, h4⟩, h5⟩ := h
  exact ⟨A, c, h1, ⟨h2, h3, h4.le hg fun _ _ h => h⟩, h5⟩
/-- Records in order, from an offset on, up to another one. -/
def rowF (last : Int) : Int → List Rec → Bool
  | _, [] => true
  | next, r :: rs => decide (chkR r = 0) && decide (next ≤ r.off) && decide (r.off ≤ last) && rowF last (r.off + 1) rs
def Form (b : Batch) : Prop :=
  (rng 1099511627776 b.base = true ∧ rng 1099511627776 b.last = true ∧ rng 1099511627776 b.src = true) ∧ (rng 1048576 b.epoch = true ∧ rng 1048576 b.gen = true ∧ rng 1048576 b.seq = true) ∧
    (b.base ≤ b.last ∧ b.last - b.base < 16 ∧ b.src + (b.last - b.base) ≤ 1099511627776 ∧ b.seq + (b.last - b.base) ≤ 1048576) ∧ (-1 ≤ b.pid ∧ b.pid ≤ 1099511627776) ∧ (b.pid = -1 → b.gen = 0 ∧ b.seq = 0 ∧ b.txn = false ∧ b.ctl = 0) ∧
    ((b.ctl = 0 ∧ rowF b.last b.base b.recs = true) ∨ ((b.ctl = 1 ∨ b.ctl = 2) ∧ b.last - b.base = 0 ∧ b.recs = [] ∧ b.txn = true))
instance decForm (b : Batch) : Decidable (Form b) := by
  unfold Form
  infer_instance
theorem within_row (m : Int) (y : Int) (l : List Int) (v : Value) (n : Nat) (ys : List Value) (hc : Cells IE 1 (y :: l) ys) (G : Nat → Option Obj) (L : List Kx.Item) (D : List Nat) :
    CallsH Try.prog 34 #[.int .i64 m, v] ⟨G, .row v 3 1 n ys :: L, D⟩ fun r h' => r = .bool ((y :: l).all (rng m)) ∧ h' = ⟨G, .row v 3 1 n ys :: L, D⟩ :=
  lend1 (E := IE) (xs := y :: l) (R := fun r => r = .bool ((y :: l).all (rng m))) F34.enters (by decide) hc fun G' hg hx => by
    have := within_ok m y l v G' hx L D
    simpa using this
theorem cells3 {a b c : Int} (ha : I64 a) (hb : I64 b) (hc : I64 c) : Cells IE 1 [a, b, c] [.int .i64 a, .int .i64 b, .int .i64 c] :=
  .cons (cs := [.int .i64 a]) ⟨rfl, ha⟩ rfl (.cons (cs := [.int .i64 b]) ⟨rfl, hb⟩ rfl (.one (cs := [.int .i64 c]) ⟨rfl, hc⟩ rfl))
theorem formed_ok (x : Batch) (cs : List Value) (G : Nat → Option Obj) (hx : BE G x cs) : FnS Try.prog 30 #[.agg cs.toArray] G (.bool (decide (Form x))) := by
  obtain ⟨A, c, rfl, ⟨hc, hm, hA⟩, i1, i2, i3, i4, i5, i6, i7, i8⟩ := hx
  refine F30.fnS (by simp) (go_of ?_)
  unfold c30 cellH
  (repeat first | (with_reducible intro _) | refine go_seq ?_ | refine go_skip ?_ | refine go_lab ?_ | refine go_blk ?_ | refine go_b ?_ | refine go_n ?_ | refine go_scp ?_); refine go_r 0 0 (by decide) ?_; (try simp -implicitDefEqProofs only [kR_e, kQ_e, push_cast, Nat.reduceBEq, Nat.reduceAdd, Nat.reduceSub, Nat.reduceMul, Nat.reduceLT, Nat.reduceLeDiff, Nat.reduceEqDiff, reduceIte, Bool.not_true, Bool.not_false, true_and, and_true, Option.map_some, Option.bind_some, Int.toNat_natCast, c30r0])
  have hbad : ∀ (fr : List Td) (e : Env) (L : List Kx.Item), ¬ Form x → go none Try.prog 131 v30.1 v30.2 (retQ o30 fun v h => v = .bool (decide (Form x))) (Td.s ((SC.reg false c30r2).seq .ret) :: fr) e ⟨G, L, []⟩ := fun fr e L hx => by
    (repeat first | (with_reducible intro _) | refine go_seq ?_ | refine go_skip ?_ | refine go_lab ?_ | refine go_blk ?_ | refine go_b ?_ | refine go_n ?_ | refine go_scp ?_); refine go_r 0 0 (by decide) ?_; (try simp -implicitDefEqProofs only [kR_e, kQ_e, push_cast, Nat.reduceBEq, Nat.reduceAdd, Nat.reduceSub, Nat.reduceMul, Nat.reduceLT, Nat.reduceLeDiff, Nat.reduceEqDiff, reduceIte, Bool.not_true, Bool.not_false, true_and, and_true, Option.map_some, Option.bind_some, Int.toNat_natCast, c30r2])
    (repeat first | (with_reducible intro _) | refine go_seq ?_ | refine go_skip ?_ | refine go_lab ?_ | refine go_blk ?_ | refine go_b ?_ | refine go_n ?_ | refine go_scp ?_)
    refine go_ret (retQ_v rfl ?_); simp only [push_cast, Nat.reduceBEq]
    rw [decide_eq_false hx]
  (repeat first | (with_reducible intro _) | refine go_seq ?_ | refine go_skip ?_ | refine go_lab ?_ | refine go_blk ?_ | refine go_b ?_ | refine go_n ?_ | refine go_scp ?_); refine go_r 8 26 (by decide) ?_; (try simp -implicitDefEqProofs only [kR_e, kQ_e, push_cast, Nat.reduceBEq, Nat.reduceAdd, Nat.reduceSub, Nat.reduceMul, Nat.reduceLT, Nat.reduceLeDiff, Nat.reduceEqDiff, reduceIte, Bool.not_true, Bool.not_false, true_and, and_true, Option.map_some, Option.bind_some, Int.toNat_natCast, c30r1])
  intro b1 hb1
  refine (within_row 1099511627776 _ _ _ _ _ (cells3 i1 i2 i3) _ _ _).mono ?_; rintro _ _ ⟨rfl, rfl⟩; (try simp -implicitDefEqProofs only [kR_e, kQ_e, push_cast, Nat.reduceBEq, Nat.reduceAdd, Nat.reduceSub, Nat.reduceMul, Nat.reduceLT, Nat.reduceLeDiff, Nat.reduceEqDiff, reduceIte, Bool.not_true, Bool.not_false, true_and, and_true, Option.map_some, Option.bind_some, Int.toNat_natCast])
  refine gd (fun h1 => ?_) (fun h1 => ?_)
  · (try simp -implicitDefEqProofs only [kR_e, kQ_e, push_cast, Nat.reduceBEq, Nat.reduceAdd, Nat.reduceSub, Nat.reduceMul, Nat.reduceLT, Nat.reduceLeDiff, Nat.reduceEqDiff, reduceIte, Bool.not_true, Bool.not_false, true_and, and_true, Option.map_some, Option.bind_some, Int.toNat_natCast])
    (repeat first | (with_reducible intro _) | refine go_seq ?_ | refine go_skip ?_ | refine go_lab ?_ | refine go_blk ?_ | refine go_b ?_ | refine go_n ?_ | refine go_scp ?_); refine go_c ?_; (try simp -implicitDefEqProofs only [kR_e, kQ_e, push_cast, Nat.reduceBEq, Nat.reduceAdd, Nat.reduceSub, Nat.reduceMul, Nat.reduceLT, Nat.reduceLeDiff, Nat.reduceEqDiff, reduceIte, Bool.not_true, Bool.not_false, true_and, and_true, Option.map_some, Option.bind_some, Int.toNat_natCast])
    refine hbad _ _ _ fun h => ?_
    simp [h.1.1, h.1.2.1, h.1.2.2] at h1
  (try simp -implicitDefEqProofs only [kR_e, kQ_e, push_cast, Nat.reduceBEq, Nat.reduceAdd, Nat.reduceSub, Nat.reduceMul, Nat.reduceLT, Nat.reduceLeDiff, Nat.reduceEqDiff, reduceIte, Bool.not_true, Bool.not_false, true_and, and_true, Option.map_some, Option.bind_some, Int.toNat_natCast])
  intro b2 hb2
  refine (within_row 1048576 _ _ _ _ _ (cells3 i4 i6 i7) _ _ _).mono ?_; rintro _ _ ⟨rfl, rfl⟩; (try simp -implicitDefEqProofs only [kR_e, kQ_e, push_cast, Nat.reduceBEq, Nat.reduceAdd, Nat.reduceSub, Nat.reduceMul, Nat.reduceLT, Nat.reduceLeDiff, Nat.reduceEqDiff, reduceIte, Bool.not_true, Bool.not_false, true_and, and_true, Option.map_some, Option.bind_some, Int.toNat_natCast])
  (repeat first | (with_reducible intro _) | refine go_seq ?_ | refine go_skip ?_ | refine go_lab ?_ | refine go_blk ?_ | refine go_b ?_ | refine go_n ?_ | refine go_scp ?_); refine go_c ?_; (try simp -implicitDefEqProofs only [kR_e, kQ_e, push_cast, Nat.reduceBEq, Nat.reduceAdd, Nat.reduceSub, Nat.reduceMul, Nat.reduceLT, Nat.reduceLeDiff, Nat.reduceEqDiff, reduceIte, Bool.not_true, Bool.not_false, true_and, and_true, Option.map_some, Option.bind_some, Int.toNat_natCast])
  refine gb (fun h2 => ?_) (fun h2 => ?_)
  · refine hbad _ _ _ fun h => ?_
    simp [h.2.1.1, h.2.1.2.1, h.2.1.2.2] at h2
  have h1 : rng 1099511627776 x.base = true ∧ rng 1099511627776 x.last = true ∧ rng 1099511627776 x.src = true := by simpa using h1
  have h2 : rng 1048576 x.epoch = true ∧ rng 1048576 x.gen = true ∧ rng 1048576 x.seq = true := by simpa using h2
  have h1' := h1
  have h2' := h2
  simp [rng] at h1' h2'
  have w1 : IntKind.i64.wrap (x.last - x.base) = x.last - x.base := by rw [w64_id] <;> omega
  (repeat first | refine go_skip ?_ | refine go_b ?_)
  (repeat first | (with_reducible intro _) | refine go_seq ?_ | refine go_skip ?_ | refine go_lab ?_ | refine go_blk ?_ | refine go_b ?_ | refine go_n ?_ | refine go_scp ?_); refine go_r 28 32 (by decide) ?_; (try simp -implicitDefEqProofs only [kR_e, kQ_e, push_cast, Nat.reduceBEq, Nat.reduceAdd, Nat.reduceSub, Nat.reduceMul, Nat.reduceLT, Nat.reduceLeDiff, Nat.reduceEqDiff, reduceIte, Bool.not_true, Bool.not_false, true_and, and_true, Option.map_some, Option.bind_some, Int.toNat_natCast, c30r3, w1])
  have hb5 : ∀ (fr : List Td) (e : Env) (L : List Kx.Item), ¬ Form x → go none Try.prog 131 v30.1 v30.2 (retQ o30 fun v h => v = .bool (decide (Form x))) (Td.s ((SC.reg false c30r5).seq .ret) :: fr) e ⟨G, L, []⟩ := fun fr e L hx => by
    (repeat first | (with_reducible intro _) | refine go_seq ?_ | refine go_skip ?_ | refine go_lab ?_ | refine go_blk ?_ | refine go_b ?_ | refine go_n ?_ | refine go_scp ?_); refine go_r 0 0 (by decide) ?_; (try simp -implicitDefEqProofs only [kR_e, kQ_e, push_cast, Nat.reduceBEq, Nat.reduceAdd, Nat.reduceSub, Nat.reduceMul, Nat.reduceLT, Nat.reduceLeDiff, Nat.reduceEqDiff, reduceIte, Bool.not_true, Bool.not_false, true_and, and_true, Option.map_some, Option.bind_some, Int.toNat_natCast, c30r5])
    (repeat first | (with_reducible intro _) | refine go_seq ?_ | refine go_skip ?_ | refine go_lab ?_ | refine go_blk ?_ | refine go_b ?_ | refine go_n ?_ | refine go_scp ?_)
    refine go_ret (retQ_v rfl ?_); simp only [push_cast, Nat.reduceBEq]
    rw [decide_eq_false hx]
  have hb7 : ∀ (fr : List Td) (e : Env) (L : List Kx.Item), ¬ Form x → go none Try.prog 131 v30.1 v30.2 (retQ o30 fun v h => v = .bool (decide (Form x))) (Td.s ((SC.reg false c30r7).seq .ret) :: fr) e ⟨G, L, []⟩ := fun fr e L hx => by
    (repeat first | (with_reducible intro _) | refine go_seq ?_ | refine go_skip ?_ | refine go_lab ?_ | refine go_blk ?_ | refine go_b ?_ | refine go_n ?_ | refine go_scp ?_); refine go_r 0 0 (by decide) ?_; (try simp -implicitDefEqProofs only [kR_e, kQ_e, push_cast, Nat.reduceBEq, Nat.reduceAdd, Nat.reduceSub, Nat.reduceMul, Nat.reduceLT, Nat.reduceLeDiff, Nat.reduceEqDiff, reduceIte, Bool.not_true, Bool.not_false, true_and, and_true, Option.map_some, Option.bind_some, Int.toNat_natCast, c30r7])
    (repeat first | (with_reducible intro _) | refine go_seq ?_ | refine go_skip ?_ | refine go_lab ?_ | refine go_blk ?_ | refine go_b ?_ | refine go_n ?_ | refine go_scp ?_)
    refine go_ret (retQ_v rfl ?_); simp only [push_cast, Nat.reduceBEq]
    rw [decide_eq_false hx]
  have hb9 : ∀ (fr : List Td) (e : Env) (L : List Kx.Item), ¬ Form x → go none Try.prog 131 v30.1 v30.2 (retQ o30 fun v h => v = .bool (decide (Form x))) (Td.s ((SC.reg false c30r9).seq .ret) :: fr) e ⟨G, L, []⟩ := fun fr e L hx => by
    (repeat first | (with_reducible intro _) | refine go_seq ?_ | refine go_skip ?_ | refine go_lab ?_ | refine go_blk ?_ | refine go_b ?_ | refine go_n ?_ | refine go_scp ?_); refine go_r 0 0 (by decide) ?_; (try simp -implicitDefEqProofs only [kR_e, kQ_e, push_cast, Nat.reduceBEq, Nat.reduceAdd, Nat.reduceSub, Nat.reduceMul, Nat.reduceLT, Nat.reduceLeDiff, Nat.reduceEqDiff, reduceIte, Bool.not_true, Bool.not_false, true_and, and_true, Option.map_some, Option.bind_some, Int.toNat_natCast, c30r9])
    (repeat first | (with_reducible intro _) | refine go_seq ?_ | refine go_skip ?_ | refine go_lab ?_ | refine go_blk ?_ | refine go_b ?_ | refine go_n ?_ | refine go_scp ?_)
    refine go_ret (retQ_v rfl ?_); simp only [push_cast, Nat.reduceBEq]
    rw [decide_eq_false hx]
  have hb17 : ∀ (fr : List Td) (e : Env) (L : List Kx.Item), ¬ Form x → go none Try.prog 131 v30.1 v30.2 (retQ o30 fun v h => v = .bool (decide (Form x))) (Td.s ((SC.reg false c30r17).seq .ret) :: fr) e ⟨G, L, []⟩ := fun fr e L hx => by
    (repeat first | (with_reducible intro _) | refine go_seq ?_ | refine go_skip ?_ | refine go_lab ?_ | refine go_blk ?_ | refine go_b ?_ | refine go_n ?_ | refine go_scp ?_); refine go_r 0 0 (by decide) ?_; (try simp -implicitDefEqProofs only [kR_e, kQ_e, push_cast, Nat.reduceBEq, Nat.reduceAdd, Nat.reduceSub, Nat.reduceMul, Nat.reduceLT, Nat.reduceLeDiff, Nat.reduceEqDiff, reduceIte, Bool.not_true, Bool.not_false, true_and, and_true, Option.map_some, Option.bind_some, Int.toNat_natCast, c30r17])
    (repeat first | (with_reducible intro _) | refine go_seq ?_ | refine go_skip ?_ | refine go_lab ?_ | refine go_blk ?_ | refine go_b ?_ | refine go_n ?_ | refine go_scp ?_)
    refine go_ret (retQ_v rfl ?_); simp only [push_cast, Nat.reduceBEq]
    rw [decide_eq_false hx]
  have w2 : ∀ (h : 0 ≤ x.last - x.base), IntKind.i64.wrap (x.src + (x.last - x.base)) = x.src + (x.last - x.base) := fun h => by rw [w64_id] <;> omega
  have w3 : ∀ (h : 0 ≤ x.last - x.base), IntKind.i64.wrap (x.seq + (x.last - x.base)) = x.seq + (x.last - x.base) := fun h => by rw [w64_id] <;> omega
  have w4 : IntKind.i64.wrap (x.gen + x.seq) = x.gen + x.seq := by rw [w64_id] <;> omega
  (repeat first | (with_reducible intro _) | refine go_seq ?_ | refine go_skip ?_ | refine go_lab ?_ | refine go_blk ?_ | refine go_b ?_ | refine go_n ?_ | refine go_scp ?_); refine go_r 33 53 (by decide) ?_; (try simp -implicitDefEqProofs only [kR_e, kQ_e, push_cast, Nat.reduceBEq, Nat.reduceAdd, Nat.reduceSub, Nat.reduceMul, Nat.reduceLT, Nat.reduceLeDiff, Nat.reduceEqDiff, reduceIte, Bool.not_true, Bool.not_false, true_and, and_true, Option.map_some, Option.bind_some, Int.toNat_natCast, c30r4])
  refine gd (fun h3 => ?_) (fun h3 => ?_)
  · (try simp -implicitDefEqProofs only [kR_e, kQ_e, push_cast, Nat.reduceBEq, Nat.reduceAdd, Nat.reduceSub, Nat.reduceMul, Nat.reduceLT, Nat.reduceLeDiff, Nat.reduceEqDiff, reduceIte, Bool.not_true, Bool.not_false, true_and, and_true, Option.map_some, Option.bind_some, Int.toNat_natCast])
    (repeat first | (with_reducible intro _) | refine go_seq ?_ | refine go_skip ?_ | refine go_lab ?_ | refine go_blk ?_ | refine go_b ?_ | refine go_n ?_ | refine go_scp ?_); refine go_c ?_; (try simp -implicitDefEqProofs only [kR_e, kQ_e, push_cast, Nat.reduceBEq, Nat.reduceAdd, Nat.reduceSub, Nat.reduceMul, Nat.reduceLT, Nat.reduceLeDiff, Nat.reduceEqDiff, reduceIte, Bool.not_true, Bool.not_false, true_and, and_true, Option.map_some, Option.bind_some, Int.toNat_natCast])
    exact hb5 _ _ _ fun h => by have := of_decide_eq_true h3; have := h.2.2.1.1; omega
  have h3 := of_decide_eq_false h3
  (try simp -implicitDefEqProofs only [kR_e, kQ_e, push_cast, Nat.reduceBEq, Nat.reduceAdd, Nat.reduceSub, Nat.reduceMul, Nat.reduceLT, Nat.reduceLeDiff, Nat.reduceEqDiff, reduceIte, Bool.not_true, Bool.not_false, true_and, and_true, Option.map_some, Option.bind_some, Int.toNat_natCast])
  refine gd (fun h4 => ?_) (fun h4 => ?_)
  · (try simp -implicitDefEqProofs only [kR_e, kQ_e, push_cast, Nat.reduceBEq, Nat.reduceAdd, Nat.reduceSub, Nat.reduceMul, Nat.reduceLT, Nat.reduceLeDiff, Nat.reduceEqDiff, reduceIte, Bool.not_true, Bool.not_false, true_and, and_true, Option.map_some, Option.bind_some, Int.toNat_natCast])
    (repeat first | (with_reducible intro _) | refine go_seq ?_ | refine go_skip ?_ | refine go_lab ?_ | refine go_blk ?_ | refine go_b ?_ | refine go_n ?_ | refine go_scp ?_); refine go_c ?_; (try simp -implicitDefEqProofs only [kR_e, kQ_e, push_cast, Nat.reduceBEq, Nat.reduceAdd, Nat.reduceSub, Nat.reduceMul, Nat.reduceLT, Nat.reduceLeDiff, Nat.reduceEqDiff, reduceIte, Bool.not_true, Bool.not_false, true_and, and_true, Option.map_some, Option.bind_some, Int.toNat_natCast])
    exact hb5 _ _ _ fun h => by have := of_decide_eq_true h4; have := h.2.2.1.2.1; omega
  have h4 := of_decide_eq_false h4
  (try simp -implicitDefEqProofs only [kR_e, kQ_e, push_cast, Nat.reduceBEq, Nat.reduceAdd, Nat.reduceSub, Nat.reduceMul, Nat.reduceLT, Nat.reduceLeDiff, Nat.reduceEqDiff, reduceIte, Bool.not_true, Bool.not_false, true_and, and_true, Option.map_some, Option.bind_some, Int.toNat_natCast, w2 (by omega)])
  refine gd (fun h5 => ?_) (fun h5 => ?_)
  · (try simp -implicitDefEqProofs only [kR_e, kQ_e, push_cast, Nat.reduceBEq, Nat.reduceAdd, Nat.reduceSub, Nat.reduceMul, Nat.reduceLT, Nat.reduceLeDiff, Nat.reduceEqDiff, reduceIte, Bool.not_true, Bool.not_false, true_and, and_true, Option.map_some, Option.bind_some, Int.toNat_natCast])
    (repeat first | (with_reducible intro _) | refine go_seq ?_ | refine go_skip ?_ | refine go_lab ?_ | refine go_blk ?_ | refine go_b ?_ | refine go_n ?_ | refine go_scp ?_); refine go_c ?_; (try simp -implicitDefEqProofs only [kR_e, kQ_e, push_cast, Nat.reduceBEq, Nat.reduceAdd, Nat.reduceSub, Nat.reduceMul, Nat.reduceLT, Nat.reduceLeDiff, Nat.reduceEqDiff, reduceIte, Bool.not_true, Bool.not_false, true_and, and_true, Option.map_some, Option.bind_some, Int.toNat_natCast])
    exact hb5 _ _ _ fun h => by have := of_decide_eq_true h5; have := h.2.2.1.2.2.1; omega
  have h5 := of_decide_eq_false h5
  (try simp -implicitDefEqProofs only [kR_e, kQ_e, push_cast, Nat.reduceBEq, Nat.reduceAdd, Nat.reduceSub, Nat.reduceMul, Nat.reduceLT, Nat.reduceLeDiff, Nat.reduceEqDiff, reduceIte, Bool.not_true, Bool.not_false, true_and, and_true, Option.map_some, Option.bind_some, Int.toNat_natCast, w3 (by omega)])
  (repeat first | (with_reducible intro _) | refine go_seq ?_ | refine go_skip ?_ | refine go_lab ?_ | refine go_blk ?_ | refine go_b ?_ | refine go_n ?_ | refine go_scp ?_); refine go_c ?_; (try simp -implicitDefEqProofs only [kR_e, kQ_e, push_cast, Nat.reduceBEq, Nat.reduceAdd, Nat.reduceSub, Nat.reduceMul, Nat.reduceLT, Nat.reduceLeDiff, Nat.reduceEqDiff, reduceIte, Bool.not_true, Bool.not_false, true_and, and_true, Option.map_some, Option.bind_some, Int.toNat_natCast])
  refine gb (fun h6 => ?_) (fun h6 => ?_)
  · exact hb5 _ _ _ fun h => by have := of_decide_eq_true h6; have := h.2.2.1.2.2.2; omega
  have h6 := of_decide_eq_false h6
  (repeat first | (with_reducible intro _) | refine go_seq ?_ | refine go_skip ?_ | refine go_lab ?_ | refine go_blk ?_ | refine go_b ?_ | refine go_n ?_ | refine go_scp ?_); refine go_r 55 62 (by decide) ?_; (try simp -implicitDefEqProofs only [kR_e, kQ_e, push_cast, Nat.reduceBEq, Nat.reduceAdd, Nat.reduceSub, Nat.reduceMul, Nat.reduceLT, Nat.reduceLeDiff, Nat.reduceEqDiff, reduceIte, Bool.not_true, Bool.not_false, true_and, and_true, Option.map_some, Option.bind_some, Int.toNat_natCast, c30r6])
  refine gd (fun h7 => ?_) (fun h7 => ?_)
  · (try simp -implicitDefEqProofs only [kR_e, kQ_e, push_cast, Nat.reduceBEq, Nat.reduceAdd, Nat.reduceSub, Nat.reduceMul, Nat.reduceLT, Nat.reduceLeDiff, Nat.reduceEqDiff, reduceIte, Bool.not_true, Bool.not_false, true_and, and_true, Option.map_some, Option.bind_some, Int.toNat_natCast])
    (repeat first | (with_reducible intro _) | refine go_seq ?_ | refine go_skip ?_ | refine go_lab ?_ | refine go_blk ?_ | refine go_b ?_ | refine go_n ?_ | refine go_scp ?_); refine go_c ?_; (try simp -implicitDefEqProofs only [kR_e, kQ_e, push_cast, Nat.reduceBEq, Nat.reduceAdd, Nat.reduceSub, Nat.reduceMul, Nat.reduceLT, Nat.reduceLeDiff, Nat.reduceEqDiff, reduceIte, Bool.not_true, Bool.not_false, true_and, and_true, Option.map_some, Option.bind_some, Int.toNat_natCast])
    exact hb7 _ _ _ fun h => by have := of_decide_eq_true h7; have := h.2.2.2.1.1; omega
  have h7 := of_decide_eq_false h7
  (try simp -implicitDefEqProofs only [kR_e, kQ_e, push_cast, Nat.reduceBEq, Nat.reduceAdd, Nat.reduceSub, Nat.reduceMul, Nat.reduceLT, Nat.reduceLeDiff, Nat.reduceEqDiff, reduceIte, Bool.not_true, Bool.not_false, true_and, and_true, Option.map_some, Option.bind_some, Int.toNat_natCast])
  (repeat first | (with_reducible intro _) | refine go_seq ?_ | refine go_skip ?_ | refine go_lab ?_ | refine go_blk ?_ | refine go_b ?_ | refine go_n ?_ | refine go_scp ?_); refine go_c ?_; (try simp -implicitDefEqProofs only [kR_e, kQ_e, push_cast, Nat.reduceBEq, Nat.reduceAdd, Nat.reduceSub, Nat.reduceMul, Nat.reduceLT, Nat.reduceLeDiff, Nat.reduceEqDiff, reduceIte, Bool.not_true, Bool.not_false, true_and, and_true, Option.map_some, Option.bind_some, Int.toNat_natCast])
  refine gb (fun h8 => ?_) (fun h8 => ?_)
  · exact hb7 _ _ _ fun h => by have := of_decide_eq_true h8; have := h.2.2.2.1.2; omega
  have h8 := of_decide_eq_false h8
  (repeat first | (with_reducible intro _) | refine go_seq ?_ | refine go_skip ?_ | refine go_lab ?_ | refine go_blk ?_ | refine go_b ?_ | refine go_n ?_ | refine go_scp ?_); refine go_r 64 83 (by decide) ?_; (try simp -implicitDefEqProofs only [kR_e, kQ_e, push_cast, Nat.reduceBEq, Nat.reduceAdd, Nat.reduceSub, Nat.reduceMul, Nat.reduceLT, Nat.reduceLeDiff, Nat.reduceEqDiff, reduceIte, Bool.not_true, Bool.not_false, true_and, and_true, Option.map_some, Option.bind_some, Int.toNat_natCast, c30r8])
  have hrest : ∀ (e : Env), (x.pid = -1 → x.gen = 0 ∧ x.seq = 0 ∧ x.txn = false ∧ x.ctl = 0) → e 3 = .int .i64 (x.last - x.base) →
      go none Try.prog 131 v30.1 v30.2 (retQ o30 fun v h => v = .bool (decide (Form x))) [Td.s (((SC.reg false c30r10).seq (SC.blk 1 ((SC.reg false c30r11).seq (SC.cond (O.t 85) ((SC.reg false c30r12).seq (((SC.reg false c30r13).seq (SC.blk 2 ((SC.reg false c30r14).seq ((SC.cond (O.t 93) SC.skip (SC.exit 2)).seq ((SC.blk 3 ((SC.reg false c30r15).seq (((SC.reg false c30r16).seq (SC.cond (O.t 111) ((SC.reg false c30r17).seq SC.ret) SC.skip)).seq (SC.reg false c30r18)))).seq (SC.reg false c30r19)))).loop)).seq ((SC.reg false c30r20).seq SC.ret))) (((SC.reg false c30r21).seq (SC.cond (O.t 116) SC.skip (SC.reg false c30r22))).seq (SC.cond (O.t 116) ((SC.reg false c30r23).seq SC.ret) SC.skip)))))).seq ((SC.reg false c30r24).seq SC.ret))] e ⟨G, [.reg 1 [.int .i64 x.base, .int .i64 x.last, .int .i64 x.src, .int .i64 x.epoch, .int .i64 x.pid, .int .i64 x.gen, .int .i64 x.seq, .bool x.txn, .int .i64 x.ctl, .slice A x.recs.length c]], []⟩ := fun e hpid e3 => by
    refine go_keep [3] ?_
    (try simp -implicitDefEqProofs only [kR_e, kQ_e, push_cast, Nat.reduceBEq, Nat.reduceAdd, Nat.reduceSub, Nat.reduceMul, Nat.reduceLT, Nat.reduceLeDiff, Nat.reduceEqDiff, reduceIte, Bool.not_true, Bool.not_false, true_and, and_true, Option.map_some, Option.bind_some, Int.toNat_natCast, e3])
    (repeat first | (with_reducible intro _) | refine go_seq ?_ | refine go_skip ?_ | refine go_lab ?_ | refine go_blk ?_ | refine go_b ?_ | refine go_n ?_ | refine go_scp ?_); refine go_r 0 0 (by decide) ?_; (try simp -implicitDefEqProofs only [kR_e, kQ_e, push_cast, Nat.reduceBEq, Nat.reduceAdd, Nat.reduceSub, Nat.reduceMul, Nat.reduceLT, Nat.reduceLeDiff, Nat.reduceEqDiff, reduceIte, Bool.not_true, Bool.not_false, true_and, and_true, Option.map_some, Option.bind_some, Int.toNat_natCast, c30r10])
    (repeat first | (with_reducible intro _) | refine go_seq ?_ | refine go_skip ?_ | refine go_lab ?_ | refine go_blk ?_ | refine go_b ?_ | refine go_n ?_ | refine go_scp ?_); refine go_r 86 87 (by decide) ?_; (try simp -implicitDefEqProofs only [kR_e, kQ_e, push_cast, Nat.reduceBEq, Nat.reduceAdd, Nat.reduceSub, Nat.reduceMul, Nat.reduceLT, Nat.reduceLeDiff, Nat.reduceEqDiff, reduceIte, Bool.not_true, Bool.not_false, true_and, and_true, Option.map_some, Option.bind_some, Int.toNat_natCast, c30r11])
    (repeat first | (with_reducible intro _) | refine go_seq ?_ | refine go_skip ?_ | refine go_lab ?_ | refine go_blk ?_ | refine go_b ?_ | refine go_n ?_ | refine go_scp ?_); refine go_c ?_; (try simp -implicitDefEqProofs only [kR_e, kQ_e, push_cast, Nat.reduceBEq, Nat.reduceAdd, Nat.reduceSub, Nat.reduceMul, Nat.reduceLT, Nat.reduceLeDiff, Nat.reduceEqDiff, reduceIte, Bool.not_true, Bool.not_false, true_and, and_true, Option.map_some, Option.bind_some, Int.toNat_natCast])
    have hmk : ((x.ctl = 0 ∧ rowF x.last x.base x.recs = true) ∨ ((x.ctl = 1 ∨ x.ctl = 2) ∧ x.last - x.base = 0 ∧ x.recs = [] ∧ x.txn = true)) → Form x := fun h => ⟨h1, h2, ⟨by omega, by omega, by omega, by omega⟩, ⟨by omega, by omega⟩, hpid, h⟩
    refine gb (fun k1 => ?_) (fun k1 => ?_)
    · have k1 := of_decide_eq_true k1
      (repeat first | (with_reducible intro _) | refine go_seq ?_ | refine go_skip ?_ | refine go_lab ?_ | refine go_blk ?_ | refine go_b ?_ | refine go_n ?_ | refine go_scp ?_); refine go_r 88 89 (by decide) ?_; (try simp -implicitDefEqProofs only [kR_e, kQ_e, push_cast, Nat.reduceBEq, Nat.reduceAdd, Nat.reduceSub, Nat.reduceMul, Nat.reduceLT, Nat.reduceLeDiff, Nat.reduceEqDiff, reduceIte, Bool.not_true, Bool.not_false, true_and, and_true, Option.map_some, Option.bind_some, Int.toNat_natCast, c30r12])
      (repeat first | (with_reducible intro _) | refine go_seq ?_ | refine go_skip ?_ | refine go_lab ?_ | refine go_blk ?_ | refine go_b ?_ | refine go_n ?_ | refine go_scp ?_); refine go_r 0 0 (by decide) ?_; (try simp -implicitDefEqProofs only [kR_e, kQ_e, push_cast, Nat.reduceBEq, Nat.reduceAdd, Nat.reduceSub, Nat.reduceMul, Nat.reduceLT, Nat.reduceLeDiff, Nat.reduceEqDiff, reduceIte, Bool.not_true, Bool.not_false, true_and, and_true, Option.map_some, Option.bind_some, Int.toNat_natCast, c30r13])
      (repeat first | (with_reducible intro _) | refine go_seq ?_ | refine go_skip ?_ | refine go_lab ?_ | refine go_blk ?_ | refine go_b ?_ | refine go_n ?_ | refine go_scp ?_)
      refine go_loop (fun e h => ∃ (k : Nat) (nx : Int), (k ≤ x.recs.length ∧ rowF x.last x.base x.recs = rowF x.last nx (x.recs.drop k)) ∧ e 92 = .int .i64 k ∧ e 91 = .int .i64 x.recs.length ∧ e 90 = .slice A x.recs.length c ∧ e 4 = .int .i64 nx ∧ h.G = G ∧ h.D = [] ∧ [.reg 1 [.int .i64 x.base, .int .i64 x.last, .int .i64 x.src, .int .i64 x.epoch, .int .i64 x.pid, .int .i64 x.gen, .int .i64 x.seq, .bool x.txn, .int .i64 x.ctl, .slice A x.recs.length c]].Sublist h.L) (fun e h => x.recs.length - iv (e 92)) ?_ ?_
      · exact ⟨0, x.base, ⟨Nat.zero_le _, rfl⟩, by (try simp -implicitDefEqProofs only [kR_e, kQ_e, push_cast, Nat.reduceBEq, Nat.reduceAdd, Nat.reduceSub, Nat.reduceMul, Nat.reduceLT, Nat.reduceLeDiff, Nat.reduceEqDiff, reduceIte, Bool.not_true, Bool.not_false, true_and, and_true, Option.map_some, Option.bind_some, Int.toNat_natCast]), by (try simp -implicitDefEqProofs only [kR_e, kQ_e, push_cast, Nat.reduceBEq, Nat.reduceAdd, Nat.reduceSub, Nat.reduceMul, Nat.reduceLT, Nat.reduceLeDiff, Nat.reduceEqDiff, reduceIte, Bool.not_true, Bool.not_false, true_and, and_true, Option.map_some, Option.bind_some, Int.toNat_natCast]), by (try simp -implicitDefEqProofs only [kR_e, kQ_e, push_cast, Nat.reduceBEq, Nat.reduceAdd, Nat.reduceSub, Nat.reduceMul, Nat.reduceLT, Nat.reduceLeDiff, Nat.reduceEqDiff, reduceIte, Bool.not_true, Bool.not_false, true_and, and_true, Option.map_some, Option.bind_some, Int.toNat_natCast]), by (try simp -implicitDefEqProofs only [kR_e, kQ_e, push_cast, Nat.reduceBEq, Nat.reduceAdd, Nat.reduceSub, Nat.reduceMul, Nat.reduceLT, Nat.reduceLeDiff, Nat.reduceEqDiff, reduceIte, Bool.not_true, Bool.not_false, true_and, and_true, Option.map_some, Option.bind_some, Int.toNat_natCast]), rfl, rfl, List.Sublist.refl _⟩
      · rintro e ⟨G', L, D⟩ ⟨k, nx, ⟨hk, hrow⟩, e92, e91, e90, e4, hG, hD, hL⟩
        dsimp only at hG hD hL
        subst hG hD
        refine go_ghost (ghost_sub hL) ?_
        refine go_keep [4, 90, 91, 92] ?_
        (try simp -implicitDefEqProofs only [kR_e, kQ_e, push_cast, Nat.reduceBEq, Nat.reduceAdd, Nat.reduceSub, Nat.reduceMul, Nat.reduceLT, Nat.reduceLeDiff, Nat.reduceEqDiff, reduceIte, Bool.not_true, Bool.not_false, true_and, and_true, Option.map_some, Option.bind_some, Int.toNat_natCast, e4, e90, e91, e92])
        (repeat first | (with_reducible intro _) | refine go_seq ?_ | refine go_skip ?_ | refine go_lab ?_ | refine go_blk ?_ | refine go_b ?_ | refine go_n ?_ | refine go_scp ?_); refine go_r 0 0 (by decide) ?_; (try simp -implicitDefEqProofs only [kR_e, kQ_e, push_cast, Nat.reduceBEq, Nat.reduceAdd, Nat.reduceSub, Nat.reduceMul, Nat.reduceLT, Nat.reduceLeDiff, Nat.reduceEqDiff, reduceIte, Bool.not_true, Bool.not_false, true_and, and_true, Option.map_some, Option.bind_some, Int.toNat_natCast, c30r14])
        (repeat first | (with_reducible intro _) | refine go_seq ?_ | refine go_skip ?_ | refine go_lab ?_ | refine go_blk ?_ | refine go_b ?_ | refine go_n ?_ | refine go_scp ?_); refine go_c ?_; (try simp -implicitDefEqProofs only [kR_e, kQ_e, push_cast, Nat.reduceBEq, Nat.reduceAdd, Nat.reduceSub, Nat.reduceMul, Nat.reduceLT, Nat.reduceLeDiff, Nat.reduceEqDiff, reduceIte, Bool.not_true, Bool.not_false, true_and, and_true, Option.map_some, Option.bind_some, Int.toNat_natCast])
        refine gb (fun ht => ?_) (fun ht => ?_)
        · have hkl : k < x.recs.length := by simpa using ht
          have hw3 := inc_i k c (by omega) hm
          obtain ⟨r, hr⟩ : ∃ r, x.recs[k]? = some r := ⟨x.recs[k], List.getElem?_eq_getElem (by omega)⟩
          have hdr : x.recs.drop k = r :: x.recs.drop (k + 1) := by
            have := List.getElem?_eq_some_iff.1 hr
            rw [List.drop_eq_getElem_cons hkl, this.2]
          rw [hdr] at hrow
          simp only [rowF] at hrow
          have hno : rowF x.last x.base x.recs = false → ¬ Form x := fun h h' => by
            rcases h'.2.2.2.2.2 with h9 | h9
            · rw [h] at h9; cases h9.2
            · omega
          (repeat first | (with_reducible intro _) | refine go_seq ?_ | refine go_skip ?_ | refine go_lab ?_ | refine go_blk ?_ | refine go_b ?_ | refine go_n ?_ | refine go_scp ?_); refine go_r 94 96 (by decide) ?_; (try simp -implicitDefEqProofs only [kR_e, kQ_e, push_cast, Nat.reduceBEq, Nat.reduceAdd, Nat.reduceSub, Nat.reduceMul, Nat.reduceLT, Nat.reduceLeDiff, Nat.reduceEqDiff, reduceIte, Bool.not_true, Bool.not_false, true_and, and_true, Option.map_some, Option.bind_some, Int.toNat_natCast, c30r15])
          refine hA.x_ld hr rfl rfl ?_
          rintro a1 ha1 cs ⟨rfl, ⟨j1, j2⟩, j3, j4⟩
          unfold cellR
          (try simp -implicitDefEqProofs only [kR_e, kQ_e, push_cast, Nat.reduceBEq, Nat.reduceAdd, Nat.reduceSub, Nat.reduceMul, Nat.reduceLT, Nat.reduceLeDiff, Nat.reduceEqDiff, reduceIte, Bool.not_true, Bool.not_false, true_and, and_true, Option.map_some, Option.bind_some, Int.toNat_natCast])
          have hck := Check_ok r
          unfold cellR at hck
          (repeat first | (with_reducible intro _) | refine go_seq ?_ | refine go_skip ?_ | refine go_lab ?_ | refine go_blk ?_ | refine go_b ?_ | refine go_n ?_ | refine go_scp ?_); refine go_r 96 111 (by decide) ?_; (try simp -implicitDefEqProofs only [kR_e, kQ_e, push_cast, Nat.reduceBEq, Nat.reduceAdd, Nat.reduceSub, Nat.reduceMul, Nat.reduceLT, Nat.reduceLeDiff, Nat.reduceEqDiff, reduceIte, Bool.not_true, Bool.not_false, true_and, and_true, Option.map_some, Option.bind_some, Int.toNat_natCast, c30r16])
          refine (hck G' _ _).mono ?_; rintro _ _ ⟨rfl, rfl⟩; (try simp -implicitDefEqProofs only [kR_e, kQ_e, push_cast, Nat.reduceBEq, Nat.reduceAdd, Nat.reduceSub, Nat.reduceMul, Nat.reduceLT, Nat.reduceLeDiff, Nat.reduceEqDiff, reduceIte, Bool.not_true, Bool.not_false, true_and, and_true, Option.map_some, Option.bind_some, Int.toNat_natCast])
          refine gd (fun k2 => ?_) (fun k2 => ?_)
          · (try simp -implicitDefEqProofs only [kR_e, kQ_e, push_cast, Nat.reduceBEq, Nat.reduceAdd, Nat.reduceSub, Nat.reduceMul, Nat.reduceLT, Nat.reduceLeDiff, Nat.reduceEqDiff, reduceIte, Bool.not_true, Bool.not_false, true_and, and_true, Option.map_some, Option.bind_some, Int.toNat_natCast])
            (repeat first | (with_reducible intro _) | refine go_seq ?_ | refine go_skip ?_ | refine go_lab ?_ | refine go_blk ?_ | refine go_b ?_ | refine go_n ?_ | refine go_scp ?_); refine go_c ?_; (try simp -implicitDefEqProofs only [kR_e, kQ_e, push_cast, Nat.reduceBEq, Nat.reduceAdd, Nat.reduceSub, Nat.reduceMul, Nat.reduceLT, Nat.reduceLeDiff, Nat.reduceEqDiff, reduceIte, Bool.not_true, Bool.not_false, true_and, and_true, Option.map_some, Option.bind_some, Int.toNat_natCast])
            exact hb17 _ _ _ (hno (by rw [hrow]; simp at k2; simp [k2]))
          have k2 : chkR r = 0 := by simpa using k2
          (try simp -implicitDefEqProofs only [kR_e, kQ_e, push_cast, Nat.reduceBEq, Nat.reduceAdd, Nat.reduceSub, Nat.reduceMul, Nat.reduceLT, Nat.reduceLeDiff, Nat.reduceEqDiff, reduceIte, Bool.not_true, Bool.not_false, true_and, and_true, Option.map_some, Option.bind_some, Int.toNat_natCast])
          refine gd (fun k3 => ?_) (fun k3 => ?_)
          · (try simp -implicitDefEqProofs only [kR_e, kQ_e, push_cast, Nat.reduceBEq, Nat.reduceAdd, Nat.reduceSub, Nat.reduceMul, Nat.reduceLT, Nat.reduceLeDiff, Nat.reduceEqDiff, reduceIte, Bool.not_true, Bool.not_false, true_and, and_true, Option.map_some, Option.bind_some, Int.toNat_natCast])
            (repeat first | (with_reducible intro _) | refine go_seq ?_ | refine go_skip ?_ | refine go_lab ?_ | refine go_blk ?_ | refine go_b ?_ | refine go_n ?_ | refine go_scp ?_); refine go_c ?_; (try simp -implicitDefEqProofs only [kR_e, kQ_e, push_cast, Nat.reduceBEq, Nat.reduceAdd, Nat.reduceSub, Nat.reduceMul, Nat.reduceLT, Nat.reduceLeDiff, Nat.reduceEqDiff, reduceIte, Bool.not_true, Bool.not_false, true_and, and_true, Option.map_some, Option.bind_some, Int.toNat_natCast])
            exact hb17 _ _ _ (hno (by rw [hrow]; have := of_decide_eq_true k3; simp; omega))
          have k3 := of_decide_eq_false k3
          (try simp -implicitDefEqProofs only [kR_e, kQ_e, push_cast, Nat.reduceBEq, Nat.reduceAdd, Nat.reduceSub, Nat.reduceMul, Nat.reduceLT, Nat.reduceLeDiff, Nat.reduceEqDiff, reduceIte, Bool.not_true, Bool.not_false, true_and, and_true, Option.map_some, Option.bind_some, Int.toNat_natCast])
          (repeat first | (with_reducible intro _) | refine go_seq ?_ | refine go_skip ?_ | refine go_lab ?_ | refine go_blk ?_ | refine go_b ?_ | refine go_n ?_ | refine go_scp ?_); refine go_c ?_; (try simp -implicitDefEqProofs only [kR_e, kQ_e, push_cast, Nat.reduceBEq, Nat.reduceAdd, Nat.reduceSub, Nat.reduceMul, Nat.reduceLT, Nat.reduceLeDiff, Nat.reduceEqDiff, reduceIte, Bool.not_true, Bool.not_false, true_and, and_true, Option.map_some, Option.bind_some, Int.toNat_natCast])
          refine gb (fun k4 => ?_) (fun k4 => ?_)
          · exact hb17 _ _ _ (hno (by rw [hrow]; have := of_decide_eq_true k4; simp; omega))
          have k4 := of_decide_eq_false k4
          have hoff := (chk_small k2).1.1
          simp [inO] at hoff
          have w5 : IntKind.i64.wrap (r.off + 1) = r.off + 1 := by rw [w64_id] <;> omega
          (repeat first | refine go_skip ?_ | refine go_b ?_)
          (repeat first | (with_reducible intro _) | refine go_seq ?_ | refine go_skip ?_ | refine go_lab ?_ | refine go_blk ?_ | refine go_b ?_ | refine go_n ?_ | refine go_scp ?_); refine go_r 113 115 (by decide) ?_; (try simp -implicitDefEqProofs only [kR_e, kQ_e, push_cast, Nat.reduceBEq, Nat.reduceAdd, Nat.reduceSub, Nat.reduceMul, Nat.reduceLT, Nat.reduceLeDiff, Nat.reduceEqDiff, reduceIte, Bool.not_true, Bool.not_false, true_and, and_true, Option.map_some, Option.bind_some, Int.toNat_natCast, c30r18, w5])
          (repeat first | (with_reducible intro _) | refine go_seq ?_ | refine go_skip ?_ | refine go_lab ?_ | refine go_blk ?_ | refine go_b ?_ | refine go_n ?_ | refine go_scp ?_); refine go_r 115 116 (by decide) ?_; (try simp -implicitDefEqProofs only [kR_e, kQ_e, push_cast, Nat.reduceBEq, Nat.reduceAdd, Nat.reduceSub, Nat.reduceMul, Nat.reduceLT, Nat.reduceLeDiff, Nat.reduceEqDiff, reduceIte, Bool.not_true, Bool.not_false, true_and, and_true, Option.map_some, Option.bind_some, Int.toNat_natCast, c30r19, hw3])
          (repeat first | (with_reducible intro _) | refine go_seq ?_ | refine go_skip ?_ | refine go_lab ?_ | refine go_blk ?_ | refine go_b ?_ | refine go_n ?_ | refine go_scp ?_)
          refine go_l ⟨⟨k + 1, r.off + 1, ⟨by omega, by rw [hrow]; simp [k2]; omega⟩, by (try simp -implicitDefEqProofs only [kR_e, kQ_e, push_cast, Nat.reduceBEq, Nat.reduceAdd, Nat.reduceSub, Nat.reduceMul, Nat.reduceLT, Nat.reduceLeDiff, Nat.reduceEqDiff, reduceIte, Bool.not_true, Bool.not_false, true_and, and_true, Option.map_some, Option.bind_some, Int.toNat_natCast]), by (try simp -implicitDefEqProofs only [kR_e, kQ_e, push_cast, Nat.reduceBEq, Nat.reduceAdd, Nat.reduceSub, Nat.reduceMul, Nat.reduceLT, Nat.reduceLeDiff, Nat.reduceEqDiff, reduceIte, Bool.not_true, Bool.not_false, true_and, and_true, Option.map_some, Option.bind_some, Int.toNat_natCast]), by (try simp -implicitDefEqProofs only [kR_e, kQ_e, push_cast, Nat.reduceBEq, Nat.reduceAdd, Nat.reduceSub, Nat.reduceMul, Nat.reduceLT, Nat.reduceLeDiff, Nat.reduceEqDiff, reduceIte, Bool.not_true, Bool.not_false, true_and, and_true, Option.map_some, Option.bind_some, Int.toNat_natCast]), by (try simp -implicitDefEqProofs only [kR_e, kQ_e, push_cast, Nat.reduceBEq, Nat.reduceAdd, Nat.reduceSub, Nat.reduceMul, Nat.reduceLT, Nat.reduceLeDiff, Nat.reduceEqDiff, reduceIte, Bool.not_true, Bool.not_false, true_and, and_true, Option.map_some, Option.bind_some, Int.toNat_natCast]), rfl, rfl, .cons _ (List.Sublist.refl _)⟩, ?_⟩
          (try simp -implicitDefEqProofs only [kR_e, kQ_e, push_cast, Nat.reduceBEq, Nat.reduceAdd, Nat.reduceSub, Nat.reduceMul, Nat.reduceLT, Nat.reduceLeDiff, Nat.reduceEqDiff, reduceIte, Bool.not_true, Bool.not_false, true_and, and_true, Option.map_some, Option.bind_some, Int.toNat_natCast])
          omega
        · have hkl : k = x.recs.length := by simp at ht; omega
          subst hkl
          refine go_exit ?_
          (try simp -implicitDefEqProofs only [kR_e, kQ_e, push_cast, Nat.reduceBEq, Nat.reduceAdd, Nat.reduceSub, Nat.reduceMul, Nat.reduceLT, Nat.reduceLeDiff, Nat.reduceEqDiff, reduceIte, Bool.not_true, Bool.not_false, true_and, and_true, Option.map_some, Option.bind_some, Int.toNat_natCast])
          (repeat first | (with_reducible intro _) | refine go_seq ?_ | refine go_skip ?_ | refine go_lab ?_ | refine go_blk ?_ | refine go_b ?_ | refine go_n ?_ | refine go_scp ?_); refine go_r 0 0 (by decide) ?_; (try simp -implicitDefEqProofs only [kR_e, kQ_e, push_cast, Nat.reduceBEq, Nat.reduceAdd, Nat.reduceSub, Nat.reduceMul, Nat.reduceLT, Nat.reduceLeDiff, Nat.reduceEqDiff, reduceIte, Bool.not_true, Bool.not_false, true_and, and_true, Option.map_some, Option.bind_some, Int.toNat_natCast, c30r20])
          (repeat first | (with_reducible intro _) | refine go_seq ?_ | refine go_skip ?_ | refine go_lab ?_ | refine go_blk ?_ | refine go_b ?_ | refine go_n ?_ | refine go_scp ?_)
          refine go_ret (retQ_v rfl ?_); simp only [push_cast, Nat.reduceBEq]
          rw [List.drop_length] at hrow
          rw [decide_eq_true (hmk (.inl ⟨k1, hrow⟩))]
    · have k1 := of_decide_eq_false k1
      have hb24 : ∀ (fr : List Td) (e : Env) (L : List Kx.Item), ¬ Form x → go none Try.prog 131 v30.1 v30.2 (retQ o30 fun v h => v = .bool (decide (Form x))) (Td.s ((SC.reg false c30r24).seq .ret) :: fr) e ⟨G, L, []⟩ := fun fr e L hx => by
        (repeat first | (with_reducible intro _) | refine go_seq ?_ | refine go_skip ?_ | refine go_lab ?_ | refine go_blk ?_ | refine go_b ?_ | refine go_n ?_ | refine go_scp ?_); refine go_r 0 0 (by decide) ?_; (try simp -implicitDefEqProofs only [kR_e, kQ_e, push_cast, Nat.reduceBEq, Nat.reduceAdd, Nat.reduceSub, Nat.reduceMul, Nat.reduceLT, Nat.reduceLeDiff, Nat.reduceEqDiff, reduceIte, Bool.not_true, Bool.not_false, true_and, and_true, Option.map_some, Option.bind_some, Int.toNat_natCast, c30r24])
        (repeat first | (with_reducible intro _) | refine go_seq ?_ | refine go_skip ?_ | refine go_lab ?_ | refine go_blk ?_ | refine go_b ?_ | refine go_n ?_ | refine go_scp ?_)
        refine go_ret (retQ_v rfl ?_); simp only [push_cast, Nat.reduceBEq]
        rw [decide_eq_false hx]
      have hfin : ∀ (fr : List Td) (e : Env), (x.ctl = 1 ∨ x.ctl = 2) → e 3 = .int .i64 (x.last - x.base) → go none Try.prog 131 v30.1 v30.2 (retQ o30 fun v h => v = .bool (decide (Form x))) (Td.s ((SC.reg false c30r23).seq .ret) :: fr) e ⟨G, [.reg 1 [.int .i64 x.base, .int .i64 x.last, .int .i64 x.src, .int .i64 x.epoch, .int .i64 x.pid, .int .i64 x.gen, .int .i64 x.seq, .bool x.txn, .int .i64 x.ctl, .slice A x.recs.length c]], []⟩ := fun fr e hc12 e3 => by
        refine go_keep [3] ?_
        (try simp -implicitDefEqProofs only [kR_e, kQ_e, push_cast, Nat.reduceBEq, Nat.reduceAdd, Nat.reduceSub, Nat.reduceMul, Nat.reduceLT, Nat.reduceLeDiff, Nat.reduceEqDiff, reduceIte, Bool.not_true, Bool.not_false, true_and, and_true, Option.map_some, Option.bind_some, Int.toNat_natCast, e3])
        have hnf : ∀ (_ : ¬ (x.last - x.base = 0 ∧ x.recs = [] ∧ x.txn = true)), decide (Form x) = false := fun hn => decide_eq_false fun h => by
          rcases h.2.2.2.2.2 with h9 | h9
          · exact k1 h9.1
          · exact hn h9.2
        (repeat first | (with_reducible intro _) | refine go_seq ?_ | refine go_skip ?_ | refine go_lab ?_ | refine go_blk ?_ | refine go_b ?_ | refine go_n ?_ | refine go_scp ?_); refine go_r 119 131 (by decide) ?_; (try simp -implicitDefEqProofs only [kR_e, kQ_e, push_cast, Nat.reduceBEq, Nat.reduceAdd, Nat.reduceSub, Nat.reduceMul, Nat.reduceLT, Nat.reduceLeDiff, Nat.reduceEqDiff, reduceIte, Bool.not_true, Bool.not_false, true_and, and_true, Option.map_some, Option.bind_some, Int.toNat_natCast, c30r23])
        refine gd (fun k2 => ?_) (fun k2 => ?_)
        · have k2 := of_decide_eq_true k2
          (try simp -implicitDefEqProofs only [kR_e, kQ_e, push_cast, Nat.reduceBEq, Nat.reduceAdd, Nat.reduceSub, Nat.reduceMul, Nat.reduceLT, Nat.reduceLeDiff, Nat.reduceEqDiff, reduceIte, Bool.not_true, Bool.not_false, true_and, and_true, Option.map_some, Option.bind_some, Int.toNat_natCast])
          refine gd (fun k3 => ?_) (fun k3 => ?_)
          · have k3 : x.recs = [] := by have := of_decide_eq_true k3; exact List.eq_nil_of_length_eq_zero (by omega)
            (try simp -implicitDefEqProofs only [kR_e, kQ_e, push_cast, Nat.reduceBEq, Nat.reduceAdd, Nat.reduceSub, Nat.reduceMul, Nat.reduceLT, Nat.reduceLeDiff, Nat.reduceEqDiff, reduceIte, Bool.not_true, Bool.not_false, true_and, and_true, Option.map_some, Option.bind_some, Int.toNat_natCast])
            (repeat first | (with_reducible intro _) | refine go_seq ?_ | refine go_skip ?_ | refine go_lab ?_ | refine go_blk ?_ | refine go_b ?_ | refine go_n ?_ | refine go_scp ?_)
            refine go_ret (retQ_v rfl ?_); simp only [push_cast, Nat.reduceBEq]
            cases ht : x.txn with
            | false => rw [hnf fun h => by rw [ht] at h; cases h.2.2]
            | true => rw [decide_eq_true (hmk (.inr ⟨hc12, k2, k3, ht⟩))]
          · have k3 := of_decide_eq_false k3
            (try simp -implicitDefEqProofs only [kR_e, kQ_e, push_cast, Nat.reduceBEq, Nat.reduceAdd, Nat.reduceSub, Nat.reduceMul, Nat.reduceLT, Nat.reduceLeDiff, Nat.reduceEqDiff, reduceIte, Bool.not_true, Bool.not_false, true_and, and_true, Option.map_some, Option.bind_some, Int.toNat_natCast])
            (repeat first | (with_reducible intro _) | refine go_seq ?_ | refine go_skip ?_ | refine go_lab ?_ | refine go_blk ?_ | refine go_b ?_ | refine go_n ?_ | refine go_scp ?_)
            refine go_ret (retQ_v rfl ?_); simp only [push_cast, Nat.reduceBEq]
            rw [hnf fun h => k3 (by rw [h.2.1]; rfl)]
        · have k2 := of_decide_eq_false k2
          (try simp -implicitDefEqProofs only [kR_e, kQ_e, push_cast, Nat.reduceBEq, Nat.reduceAdd, Nat.reduceSub, Nat.reduceMul, Nat.reduceLT, Nat.reduceLeDiff, Nat.reduceEqDiff, reduceIte, Bool.not_true, Bool.not_false, true_and, and_true, Option.map_some, Option.bind_some, Int.toNat_natCast])
          (repeat first | (with_reducible intro _) | refine go_seq ?_ | refine go_skip ?_ | refine go_lab ?_ | refine go_blk ?_ | refine go_b ?_ | refine go_n ?_ | refine go_scp ?_)
          refine go_ret (retQ_v rfl ?_); simp only [push_cast, Nat.reduceBEq]
          rw [hnf fun h => k2 h.1]
      (repeat first | (with_reducible intro _) | refine go_seq ?_ | refine go_skip ?_ | refine go_lab ?_ | refine go_blk ?_ | refine go_b ?_ | refine go_n ?_ | refine go_scp ?_); refine go_r 117 118 (by decide) ?_; (try simp -implicitDefEqProofs only [kR_e, kQ_e, push_cast, Nat.reduceBEq, Nat.reduceAdd, Nat.reduceSub, Nat.reduceMul, Nat.reduceLT, Nat.reduceLeDiff, Nat.reduceEqDiff, reduceIte, Bool.not_true, Bool.not_false, true_and, and_true, Option.map_some, Option.bind_some, Int.toNat_natCast, c30r21])
      (repeat first | (with_reducible intro _) | refine go_seq ?_ | refine go_skip ?_ | refine go_lab ?_ | refine go_blk ?_ | refine go_b ?_ | refine go_n ?_ | refine go_scp ?_); refine go_c ?_; (try simp -implicitDefEqProofs only [kR_e, kQ_e, push_cast, Nat.reduceBEq, Nat.reduceAdd, Nat.reduceSub, Nat.reduceMul, Nat.reduceLT, Nat.reduceLeDiff, Nat.reduceEqDiff, reduceIte, Bool.not_true, Bool.not_false, true_and, and_true, Option.map_some, Option.bind_some, Int.toNat_natCast])
      refine gb (fun k2 => ?_) (fun k2 => ?_)
      · (repeat first | refine go_skip ?_ | refine go_b ?_)
        (repeat first | (with_reducible intro _) | refine go_seq ?_ | refine go_skip ?_ | refine go_lab ?_ | refine go_blk ?_ | refine go_b ?_ | refine go_n ?_ | refine go_scp ?_); refine go_c ?_; (try simp -implicitDefEqProofs only [kR_e, kQ_e, push_cast, Nat.reduceBEq, Nat.reduceAdd, Nat.reduceSub, Nat.reduceMul, Nat.reduceLT, Nat.reduceLeDiff, Nat.reduceEqDiff, reduceIte, Bool.not_true, Bool.not_false, true_and, and_true, Option.map_some, Option.bind_some, Int.toNat_natCast])
        refine gb (fun _ => ?_) (fun h => by rw [k2] at h; cases h)
        refine hfin _ _ (.inl (of_decide_eq_true k2)) ?_
        (try simp -implicitDefEqProofs only [kR_e, kQ_e, push_cast, Nat.reduceBEq, Nat.reduceAdd, Nat.reduceSub, Nat.reduceMul, Nat.reduceLT, Nat.reduceLeDiff, Nat.reduceEqDiff, reduceIte, Bool.not_true, Bool.not_false, true_and, and_true, Option.map_some, Option.bind_some, Int.toNat_natCast])
      · have k2 := of_decide_eq_false k2
        (repeat first | (with_reducible intro _) | refine go_seq ?_ | refine go_skip ?_ | refine go_lab ?_ | refine go_blk ?_ | refine go_b ?_ | refine go_n ?_ | refine go_scp ?_); refine go_r 118 119 (by decide) ?_; (try simp -implicitDefEqProofs only [kR_e, kQ_e, push_cast, Nat.reduceBEq, Nat.reduceAdd, Nat.reduceSub, Nat.reduceMul, Nat.reduceLT, Nat.reduceLeDiff, Nat.reduceEqDiff, reduceIte, Bool.not_true, Bool.not_false, true_and, and_true, Option.map_some, Option.bind_some, Int.toNat_natCast, c30r22])
        (repeat first | (with_reducible intro _) | refine go_seq ?_ | refine go_skip ?_ | refine go_lab ?_ | refine go_blk ?_ | refine go_b ?_ | refine go_n ?_ | refine go_scp ?_); refine go_c ?_; (try simp -implicitDefEqProofs only [kR_e, kQ_e, push_cast, Nat.reduceBEq, Nat.reduceAdd, Nat.reduceSub, Nat.reduceMul, Nat.reduceLT, Nat.reduceLeDiff, Nat.reduceEqDiff, reduceIte, Bool.not_true, Bool.not_false, true_and, and_true, Option.map_some, Option.bind_some, Int.toNat_natCast])
        refine gb (fun k3 => ?_) (fun k3 => ?_)
        · refine hfin _ _ (.inr (of_decide_eq_true k3)) ?_
          (try simp -implicitDefEqProofs only [kR_e, kQ_e, push_cast, Nat.reduceBEq, Nat.reduceAdd, Nat.reduceSub, Nat.reduceMul, Nat.reduceLT, Nat.reduceLeDiff, Nat.reduceEqDiff, reduceIte, Bool.not_true, Bool.not_false, true_and, and_true, Option.map_some, Option.bind_some, Int.toNat_natCast])
        · have k3 := of_decide_eq_false k3
          (repeat first | refine go_skip ?_ | refine go_b ?_)
          refine hb24 _ _ _ fun h => ?_
          rcases h.2.2.2.2.2 with h9 | h9
          · exact k1 h9.1
          · rcases h9.1 with h9 | h9
            · exact k2 h9
            · exact k3 h9
  refine gd (fun h9 => ?_) (fun h9 => ?_)
  · have h9 := of_decide_eq_true h9
    (try simp -implicitDefEqProofs only [kR_e, kQ_e, push_cast, Nat.reduceBEq, Nat.reduceAdd, Nat.reduceSub, Nat.reduceMul, Nat.reduceLT, Nat.reduceLeDiff, Nat.reduceEqDiff, reduceIte, Bool.not_true, Bool.not_false, true_and, and_true, Option.map_some, Option.bind_some, Int.toNat_natCast, w4])
    refine gd (fun h10 => ?_) (fun h10 => ?_)
    · (try simp -implicitDefEqProofs only [kR_e, kQ_e, push_cast, Nat.reduceBEq, Nat.reduceAdd, Nat.reduceSub, Nat.reduceMul, Nat.reduceLT, Nat.reduceLeDiff, Nat.reduceEqDiff, reduceIte, Bool.not_true, Bool.not_false, true_and, and_true, Option.map_some, Option.bind_some, Int.toNat_natCast])
      (repeat first | (with_reducible intro _) | refine go_seq ?_ | refine go_skip ?_ | refine go_lab ?_ | refine go_blk ?_ | refine go_b ?_ | refine go_n ?_ | refine go_scp ?_); refine go_c ?_; (try simp -implicitDefEqProofs only [kR_e, kQ_e, push_cast, Nat.reduceBEq, Nat.reduceAdd, Nat.reduceSub, Nat.reduceMul, Nat.reduceLT, Nat.reduceLeDiff, Nat.reduceEqDiff, reduceIte, Bool.not_true, Bool.not_false, true_and, and_true, Option.map_some, Option.bind_some, Int.toNat_natCast])
      exact hb9 _ _ _ fun h => by have := of_decide_eq_true h10; have := h.2.2.2.2.1 h9; omega
    have h10 := of_decide_eq_false h10
    (try simp -implicitDefEqProofs only [kR_e, kQ_e, push_cast, Nat.reduceBEq, Nat.reduceAdd, Nat.reduceSub, Nat.reduceMul, Nat.reduceLT, Nat.reduceLeDiff, Nat.reduceEqDiff, reduceIte, Bool.not_true, Bool.not_false, true_and, and_true, Option.map_some, Option.bind_some, Int.toNat_natCast])
    refine gd (fun h11 => ?_) (fun h11 => ?_)
    · (try simp -implicitDefEqProofs only [kR_e, kQ_e, push_cast, Nat.reduceBEq, Nat.reduceAdd, Nat.reduceSub, Nat.reduceMul, Nat.reduceLT, Nat.reduceLeDiff, Nat.reduceEqDiff, reduceIte, Bool.not_true, Bool.not_false, true_and, and_true, Option.map_some, Option.bind_some, Int.toNat_natCast])
      (repeat first | (with_reducible intro _) | refine go_seq ?_ | refine go_skip ?_ | refine go_lab ?_ | refine go_blk ?_ | refine go_b ?_ | refine go_n ?_ | refine go_scp ?_); refine go_c ?_; (try simp -implicitDefEqProofs only [kR_e, kQ_e, push_cast, Nat.reduceBEq, Nat.reduceAdd, Nat.reduceSub, Nat.reduceMul, Nat.reduceLT, Nat.reduceLeDiff, Nat.reduceEqDiff, reduceIte, Bool.not_true, Bool.not_false, true_and, and_true, Option.map_some, Option.bind_some, Int.toNat_natCast])
      exact hb9 _ _ _ fun h => by have := (h.2.2.2.2.1 h9).2.2.1; rw [h11] at this; cases this
    (try simp -implicitDefEqProofs only [kR_e, kQ_e, push_cast, Nat.reduceBEq, Nat.reduceAdd, Nat.reduceSub, Nat.reduceMul, Nat.reduceLT, Nat.reduceLeDiff, Nat.reduceEqDiff, reduceIte, Bool.not_true, Bool.not_false, true_and, and_true, Option.map_some, Option.bind_some, Int.toNat_natCast])
    (repeat first | (with_reducible intro _) | refine go_seq ?_ | refine go_skip ?_ | refine go_lab ?_ | refine go_blk ?_ | refine go_b ?_ | refine go_n ?_ | refine go_scp ?_); refine go_c ?_; (try simp -implicitDefEqProofs only [kR_e, kQ_e, push_cast, Nat.reduceBEq, Nat.reduceAdd, Nat.reduceSub, Nat.reduceMul, Nat.reduceLT, Nat.reduceLeDiff, Nat.reduceEqDiff, reduceIte, Bool.not_true, Bool.not_false, true_and, and_true, Option.map_some, Option.bind_some, Int.toNat_natCast])
    refine gb (fun h12 => ?_) (fun h12 => ?_)
    · exact hb9 _ _ _ fun h => by have := of_decide_eq_true h12; have := (h.2.2.2.2.1 h9).2.2.2; omega
    have h12 := of_decide_eq_false h12
    (repeat first | refine go_skip ?_ | refine go_b ?_)
    refine go_ghost (ghost_sub (.cons _ (.cons _ (List.Sublist.refl _)))) ?_
    refine hrest _ (fun _ => ⟨by omega, by omega, h11, by omega⟩) ?_
    (try simp -implicitDefEqProofs only [kR_e, kQ_e, push_cast, Nat.reduceBEq, Nat.reduceAdd, Nat.reduceSub, Nat.reduceMul, Nat.reduceLT, Nat.reduceLeDiff, Nat.reduceEqDiff, reduceIte, Bool.not_true, Bool.not_false, true_and, and_true, Option.map_some, Option.bind_some, Int.toNat_natCast])
  · have h9 := of_decide_eq_false h9
    (try simp -implicitDefEqProofs only [kR_e, kQ_e, push_cast, Nat.reduceBEq, Nat.reduceAdd, Nat.reduceSub, Nat.reduceMul, Nat.reduceLT, Nat.reduceLeDiff, Nat.reduceEqDiff, reduceIte, Bool.not_true, Bool.not_false, true_and, and_true, Option.map_some, Option.bind_some, Int.toNat_natCast])
    (repeat first | (with_reducible intro _) | refine go_seq ?_ | refine go_skip ?_ | refine go_lab ?_ | refine go_blk ?_ | refine go_b ?_ | refine go_n ?_ | refine go_scp ?_); refine go_c ?_; (try simp -implicitDefEqProofs only [kR_e, kQ_e, push_cast, Nat.reduceBEq, Nat.reduceAdd, Nat.reduceSub, Nat.reduceMul, Nat.reduceLT, Nat.reduceLeDiff, Nat.reduceEqDiff, reduceIte, Bool.not_true, Bool.not_false, true_and, and_true, Option.map_some, Option.bind_some, Int.toNat_natCast])
    (repeat first | refine go_skip ?_ | refine go_b ?_)
    refine go_ghost (ghost_sub (.cons _ (.cons _ (List.Sublist.refl _)))) ?_
    refine hrest _ (fun h => absurd h h9) ?_
    (try simp -implicitDefEqProofs only [kR_e, kQ_e, push_cast, Nat.reduceBEq, Nat.reduceAdd, Nat.reduceSub, Nat.reduceMul, Nat.reduceLT, Nat.reduceLeDiff, Nat.reduceEqDiff, reduceIte, Bool.not_true, Bool.not_false, true_and, and_true, Option.map_some, Option.bind_some, Int.toNat_natCast])
end Go.Proofs.Ytdiccicokbbcoaa

/- Bytes, part 14 of a proof: a batch, written, by the document. No condition. -/
import Derived.Test.YtdiccicokbbcoaaWM
set_option linter.unusedSimpArgs false
set_option linter.unusedVariables false
namespace Go.Proofs.Ytdiccicokbbcoaa
open Go Go.Kx
theorem F32 : Fun Try.prog 32 91 v32 c32 o32 := Fun.mk' Try.func32 Try.ntmps32 (by kernel_rfl) (by kernel_rfl) s32 q32
theorem cells_i : ∀ (l : List Int), (∀ x ∈ l, I64 x) → Cells IE 1 l (l.map fun n => .int .i64 n)
  | [], _ => .nil
  | n :: l, h => .cons (cs := [.int .i64 n]) ⟨rfl, h n (.head _)⟩ rfl (cells_i l fun x hx => h x (.tail _ hx))
theorem mark_r {n : Int} (h : n = 0 ∨ n = 1 ∨ n = 2) : IntKind.u8.wrap (IntKind.i64.wrap (n + 4)) = ((UInt8.ofNat (n.toNat + 4)).toNat : Int) := by
  rcases h with rfl | rfl | rfl <;> rfl
/-- The bytes of the first records. -/
def tailK (x : Batch) (k : Nat) : List UInt8 := tailB { x with recs := x.recs.take k }
theorem tailK_0 (x : Batch) : tailK x 0 = [] := by simp [tailK, tailB]
theorem tailK_n (x : Batch) : tailK x x.recs.length = tailB x := by simp [tailK]
theorem tailK_pos {x : Batch} {k : Nat} {r0 : Rec} (h0 : x.recs[0]? = some r0) (hk : 0 < k) : tailK x k = pvB r0.stamp ++ recsB x.base r0.stamp (x.recs.take k) := by
  match hr : x.recs, h0 with
  | r :: rs, h0 =>
    simp at h0
    subst h0
    obtain ⟨k, rfl⟩ : ∃ j, k = j + 1 := ⟨k - 1, by omega⟩
    simp [tailK, tailB, hr]
theorem tailK_succ {x : Batch} {k : Nat} {r r0 : Rec} (h0 : x.recs[0]? = some r0) (hr : x.recs[k]? = some r) : tailK x (k + 1) = tailK x k ++ (if k = 0 then pvB r0.stamp else []) ++ prB r x.base r0.stamp := by
  rw [tailK_pos h0 (by omega), recsB_succ hr]
  by_cases hk : k = 0
  · subst hk
    simp [tailK_0, recsB]
  · rw [tailK_pos h0 (by omega), if_neg hk]
    simp
theorem bytes_ok (x : Batch) (cs : List Value) (G : Nat → Option Obj) (hx : BE G x cs) (hf : Form x) : FnO Try.prog 32 #[.agg cs.toArray] G [] (fun _ L' r => OwnB (bytesB x) L' r) := by
  obtain ⟨A, c, rfl, ⟨hc, hm, hA⟩, i1, i2, i3, i4, i5, i6, i7, i8⟩ := hx
  have hf0 := hf
  obtain ⟨⟨f1, f2, f3⟩, ⟨f4, f5, f6⟩, ⟨f7, f8, f9, f10⟩, f11, f12, f13⟩ := hf
  simp [rng] at f1 f2 f3 f4 f5 f6
  refine F32.fnO (by simp) noRegs_nil (go_of ?_)
  unfold c32 cellH
  have w1 : IntKind.i64.wrap (x.last - x.base) = x.last - x.base := by rw [w64_id] <;> omega
  have hin : ∀ n ∈ headN x, I64 n := by
    intro n hn
    simp [headN] at hn
    unfold I64 at *
    omega
  (repeat first | (with_reducible intro _) | refine go_seq ?_ | refine go_skip ?_ | refine go_lab ?_ | refine go_blk ?_ | refine go_b ?_ | refine go_n ?_ | refine go_scp ?_); refine go_r 0 0 (by decide) ?_; (try simp -implicitDefEqProofs only [kR_e, kQ_e, push_cast, Nat.reduceBEq, Nat.reduceAdd, Nat.reduceSub, Nat.reduceMul, Nat.reduceLT, Nat.reduceLeDiff, Nat.reduceEqDiff, reduceIte, Bool.not_true, Bool.not_false, true_and, and_true, Option.map_some, Option.bind_some, Int.toNat_natCast, c32r0])
  (repeat first | (with_reducible intro _) | refine go_seq ?_ | refine go_skip ?_ | refine go_lab ?_ | refine go_blk ?_ | refine go_b ?_ | refine go_n ?_ | refine go_scp ?_); refine go_r 0 0 (by decide) ?_; (try simp -implicitDefEqProofs only [kR_e, kQ_e, push_cast, Nat.reduceBEq, Nat.reduceAdd, Nat.reduceSub, Nat.reduceMul, Nat.reduceLT, Nat.reduceLeDiff, Nat.reduceEqDiff, reduceIte, Bool.not_true, Bool.not_false, true_and, and_true, Option.map_some, Option.bind_some, Int.toNat_natCast, c32r1])
  (repeat first | (with_reducible intro _) | refine go_seq ?_ | refine go_skip ?_ | refine go_lab ?_ | refine go_blk ?_ | refine go_b ?_ | refine go_n ?_ | refine go_scp ?_); refine go_r 12 28 (by decide) ?_; (try simp -implicitDefEqProofs only [kR_e, kQ_e, push_cast, Nat.reduceBEq, Nat.reduceAdd, Nat.reduceSub, Nat.reduceMul, Nat.reduceLT, Nat.reduceLeDiff, Nat.reduceEqDiff, reduceIte, Bool.not_true, Bool.not_false, true_and, and_true, Option.map_some, Option.bind_some, Int.toNat_natCast, c32r2, w1])
  intro b0 hb0
  (try simp -implicitDefEqProofs only [kR_e, kQ_e, push_cast, Nat.reduceBEq, Nat.reduceAdd, Nat.reduceSub, Nat.reduceMul, Nat.reduceLT, Nat.reduceLeDiff, Nat.reduceEqDiff, reduceIte, Bool.not_true, Bool.not_false, true_and, and_true, Option.map_some, Option.bind_some, Int.toNat_natCast])
  (repeat first | (with_reducible intro _) | refine go_seq ?_ | refine go_skip ?_ | refine go_lab ?_ | refine go_blk ?_ | refine go_b ?_ | refine go_n ?_ | refine go_scp ?_)
  refine go_gx (gx_slv_at [] _ (by decide) (cells_i _ hin)) ?_
  rintro h' ⟨G1, rfl, hg1, A7, c7, hA7e, hl7, hm7, hA7⟩
  cases hA7e
  refine go_ghost (ghost_nil none 5 1) ?_
  refine go_loop (fun e h => ∃ (k : Nat) (G' : Nat → Option Obj) (u : Value) (zc : List Value), (k ≤ 7 ∧ Gle G1 G' ∧ Cells UE 1 (headB ((headN x).take k)) zc) ∧ e 30 = .int .i64 k ∧ e 29 = .int .i64 7 ∧ e 28 = .slice (some ⟨b0, 0, none⟩) 7 7 ∧ e 3 = u ∧ h.G = G' ∧ h.D = [] ∧ [.row u 5 1 (headB ((headN x).take k)).length zc, .reg 1 [.int .i64 x.base, .int .i64 x.last, .int .i64 x.src, .int .i64 x.epoch, .int .i64 x.pid, .int .i64 x.gen, .int .i64 x.seq, .bool x.txn, .int .i64 x.ctl, .slice A x.recs.length c]].Sublist h.L) (fun e h => 7 - iv (e 30)) ?_ ?_
  · exact ⟨0, G1, _, [], ⟨Nat.zero_le _, .refl _, .nil⟩, by (try simp -implicitDefEqProofs only [kR_e, kQ_e, push_cast, Nat.reduceBEq, Nat.reduceAdd, Nat.reduceSub, Nat.reduceMul, Nat.reduceLT, Nat.reduceLeDiff, Nat.reduceEqDiff, reduceIte, Bool.not_true, Bool.not_false, true_and, and_true, Option.map_some, Option.bind_some, Int.toNat_natCast]), by (try simp -implicitDefEqProofs only [kR_e, kQ_e, push_cast, Nat.reduceBEq, Nat.reduceAdd, Nat.reduceSub, Nat.reduceMul, Nat.reduceLT, Nat.reduceLeDiff, Nat.reduceEqDiff, reduceIte, Bool.not_true, Bool.not_false, true_and, and_true, Option.map_some, Option.bind_some, Int.toNat_natCast]); rfl, by (try simp -implicitDefEqProofs only [kR_e, kQ_e, push_cast, Nat.reduceBEq, Nat.reduceAdd, Nat.reduceSub, Nat.reduceMul, Nat.reduceLT, Nat.reduceLeDiff, Nat.reduceEqDiff, reduceIte, Bool.not_true, Bool.not_false, true_and, and_true, Option.map_some, Option.bind_some, Int.toNat_natCast]), by (try simp -implicitDefEqProofs only [kR_e, kQ_e, push_cast, Nat.reduceBEq, Nat.reduceAdd, Nat.reduceSub, Nat.reduceMul, Nat.reduceLT, Nat.reduceLeDiff, Nat.reduceEqDiff, reduceIte, Bool.not_true, Bool.not_false, true_and, and_true, Option.map_some, Option.bind_some, Int.toNat_natCast]), rfl, rfl, List.Sublist.refl _⟩
  · rintro e ⟨G', L, D⟩ ⟨k, G2, u, zc, ⟨hk, hgg, hcs⟩, e30, e29, e28, e3, hG, hD, hL⟩
    dsimp only at hG hD hL
    subst hG hD
    refine go_ghost (ghost_sub hL) ?_
    refine go_keep [3, 28, 29, 30] ?_
    (try simp -implicitDefEqProofs only [kR_e, kQ_e, push_cast, Nat.reduceBEq, Nat.reduceAdd, Nat.reduceSub, Nat.reduceMul, Nat.reduceLT, Nat.reduceLeDiff, Nat.reduceEqDiff, reduceIte, Bool.not_true, Bool.not_false, true_and, and_true, Option.map_some, Option.bind_some, Int.toNat_natCast, e3, e28, e29, e30])
    have hhl := headB_len ((headN x).take k)
    have hh7 : ((headN x).take k).length ≤ 7 := by simp [headN]; omega
    (repeat first | (with_reducible intro _) | refine go_seq ?_ | refine go_skip ?_ | refine go_lab ?_ | refine go_blk ?_ | refine go_b ?_ | refine go_n ?_ | refine go_scp ?_); refine go_r 0 0 (by decide) ?_; (try simp -implicitDefEqProofs only [kR_e, kQ_e, push_cast, Nat.reduceBEq, Nat.reduceAdd, Nat.reduceSub, Nat.reduceMul, Nat.reduceLT, Nat.reduceLeDiff, Nat.reduceEqDiff, reduceIte, Bool.not_true, Bool.not_false, true_and, and_true, Option.map_some, Option.bind_some, Int.toNat_natCast, c32r3])
    (repeat first | (with_reducible intro _) | refine go_seq ?_ | refine go_skip ?_ | refine go_lab ?_ | refine go_blk ?_ | refine go_b ?_ | refine go_n ?_ | refine go_scp ?_); refine go_c ?_; (try simp -implicitDefEqProofs only [kR_e, kQ_e, push_cast, Nat.reduceBEq, Nat.reduceAdd, Nat.reduceSub, Nat.reduceMul, Nat.reduceLT, Nat.reduceLeDiff, Nat.reduceEqDiff, reduceIte, Bool.not_true, Bool.not_false, true_and, and_true, Option.map_some, Option.bind_some, Int.toNat_natCast])
    refine gb (fun ht => ?_) (fun ht => ?_)
    · have hkl : k < 7 := by simp at ht; omega
      have hw3 := inc_i k 7 (by omega) (by unfold maxLen; omega)
      obtain ⟨n, hn⟩ : ∃ n, (headN x)[k]? = some n := ⟨(headN x)[k]'(by simp [headN]; omega), List.getElem?_eq_getElem _⟩
      have hsucc := headB_succ hn
      have hA7' := hA7.le hgg (E' := IE) fun _ _ h => h
      (repeat first | (with_reducible intro _) | refine go_skip ?_ | refine go_b ?_)
      (repeat first | (with_reducible intro _) | refine go_seq ?_ | refine go_skip ?_ | refine go_lab ?_ | refine go_blk ?_ | refine go_b ?_ | refine go_n ?_ | refine go_scp ?_); refine go_r 32 34 (by decide) ?_; (try simp -implicitDefEqProofs only [kR_e, kQ_e, push_cast, Nat.reduceBEq, Nat.reduceAdd, Nat.reduceSub, Nat.reduceMul, Nat.reduceLT, Nat.reduceLeDiff, Nat.reduceEqDiff, reduceIte, Bool.not_true, Bool.not_false, true_and, and_true, Option.map_some, Option.bind_some, Int.toNat_natCast, c32r4])
      refine hA7'.x_l1 hn rfl rfl ?_
      rintro a1 ha1 v ⟨hv, hni⟩
      cases hv
      (try simp -implicitDefEqProofs only [kR_e, kQ_e, push_cast, Nat.reduceBEq, Nat.reduceAdd, Nat.reduceSub, Nat.reduceMul, Nat.reduceLT, Nat.reduceLeDiff, Nat.reduceEqDiff, reduceIte, Bool.not_true, Bool.not_false, true_and, and_true, Option.map_some, Option.bind_some, Int.toNat_natCast])
      (repeat first | (with_reducible intro _) | refine go_seq ?_ | refine go_skip ?_ | refine go_lab ?_ | refine go_blk ?_ | refine go_b ?_ | refine go_n ?_ | refine go_scp ?_); refine go_r 34 37 (by decide) ?_; (try simp -implicitDefEqProofs only [kR_e, kQ_e, push_cast, Nat.reduceBEq, Nat.reduceAdd, Nat.reduceSub, Nat.reduceMul, Nat.reduceLT, Nat.reduceLeDiff, Nat.reduceEqDiff, reduceIte, Bool.not_true, Bool.not_false, true_and, and_true, Option.map_some, Option.bind_some, Int.toNat_natCast, c32r5])
      refine callsH_gx F51.enters (gx_slv_at [] _ (by decide) hcs) ?_
      rintro h' ⟨G3, rfl, hg3, hv3⟩
      refine (RPutVar_ok _ n hni _ G3 hv3 (by omega) _ []).mono ?_
      rintro r h' ⟨G4, L', rfl, hg4, ys, hys, rfl⟩
      rw [← hsucc] at hys ⊢
      (try simp -implicitDefEqProofs only [kR_e, kQ_e, push_cast, Nat.reduceBEq, Nat.reduceAdd, Nat.reduceSub, Nat.reduceMul, Nat.reduceLT, Nat.reduceLeDiff, Nat.reduceEqDiff, reduceIte, Bool.not_true, Bool.not_false, true_and, and_true, Option.map_some, Option.bind_some, Int.toNat_natCast])
      (repeat first | (with_reducible intro _) | refine go_seq ?_ | refine go_skip ?_ | refine go_lab ?_ | refine go_blk ?_ | refine go_b ?_ | refine go_n ?_ | refine go_scp ?_); refine go_r 37 38 (by decide) ?_; (try simp -implicitDefEqProofs only [kR_e, kQ_e, push_cast, Nat.reduceBEq, Nat.reduceAdd, Nat.reduceSub, Nat.reduceMul, Nat.reduceLT, Nat.reduceLeDiff, Nat.reduceEqDiff, reduceIte, Bool.not_true, Bool.not_false, true_and, and_true, Option.map_some, Option.bind_some, Int.toNat_natCast, c32r6, hw3])
      (repeat first | (with_reducible intro _) | refine go_seq ?_ | refine go_skip ?_ | refine go_lab ?_ | refine go_blk ?_ | refine go_b ?_ | refine go_n ?_ | refine go_scp ?_)
      refine go_l ⟨⟨k + 1, G4, _, ys, ⟨by omega, hgg.trans (hg3.trans hg4), hys⟩, by (try simp -implicitDefEqProofs only [kR_e, kQ_e, push_cast, Nat.reduceBEq, Nat.reduceAdd, Nat.reduceSub, Nat.reduceMul, Nat.reduceLT, Nat.reduceLeDiff, Nat.reduceEqDiff, reduceIte, Bool.not_true, Bool.not_false, true_and, and_true, Option.map_some, Option.bind_some, Int.toNat_natCast]), by (try simp -implicitDefEqProofs only [kR_e, kQ_e, push_cast, Nat.reduceBEq, Nat.reduceAdd, Nat.reduceSub, Nat.reduceMul, Nat.reduceLT, Nat.reduceLeDiff, Nat.reduceEqDiff, reduceIte, Bool.not_true, Bool.not_false, true_and, and_true, Option.map_some, Option.bind_some, Int.toNat_natCast]), by (try simp -implicitDefEqProofs only [kR_e, kQ_e, push_cast, Nat.reduceBEq, Nat.reduceAdd, Nat.reduceSub, Nat.reduceMul, Nat.reduceLT, Nat.reduceLeDiff, Nat.reduceEqDiff, reduceIte, Bool.not_true, Bool.not_false, true_and, and_true, Option.map_some, Option.bind_some, Int.toNat_natCast]), by (try simp -implicitDefEqProofs only [kR_e, kQ_e, push_cast, Nat.reduceBEq, Nat.reduceAdd, Nat.reduceSub, Nat.reduceMul, Nat.reduceLT, Nat.reduceLeDiff, Nat.reduceEqDiff, reduceIte, Bool.not_true, Bool.not_false, true_and, and_true, Option.map_some, Option.bind_some, Int.toNat_natCast]), rfl, rfl, List.Sublist.refl _⟩, ?_⟩
      (try simp -implicitDefEqProofs only [kR_e, kQ_e, push_cast, Nat.reduceBEq, Nat.reduceAdd, Nat.reduceSub, Nat.reduceMul, Nat.reduceLT, Nat.reduceLeDiff, Nat.reduceEqDiff, reduceIte, Bool.not_true, Bool.not_false, true_and, and_true, Option.map_some, Option.bind_some, Int.toNat_natCast])
      omega
    · have hkl : k = 7 := by simp at ht; omega
      subst hkl
      rw [show (headN x).take 7 = headN x from rfl] at hcs hhl ⊢
      have hmx := form_recs hf0
      have hh8 : (headN x).length = 7 := rfl
      have hgg' := hg1.trans hgg
      refine go_exit ?_
      (try simp -implicitDefEqProofs only [kR_e, kQ_e, push_cast, Nat.reduceBEq, Nat.reduceAdd, Nat.reduceSub, Nat.reduceMul, Nat.reduceLT, Nat.reduceLeDiff, Nat.reduceEqDiff, reduceIte, Bool.not_true, Bool.not_false, true_and, and_true, Option.map_some, Option.bind_some, Int.toNat_natCast])
      (repeat first | (with_reducible intro _) | refine go_seq ?_ | refine go_skip ?_ | refine go_lab ?_ | refine go_blk ?_ | refine go_b ?_ | refine go_n ?_ | refine go_scp ?_); refine go_r 39 40 (by decide) ?_; (try simp -implicitDefEqProofs only [kR_e, kQ_e, push_cast, Nat.reduceBEq, Nat.reduceAdd, Nat.reduceSub, Nat.reduceMul, Nat.reduceLT, Nat.reduceLeDiff, Nat.reduceEqDiff, reduceIte, Bool.not_true, Bool.not_false, true_and, and_true, Option.map_some, Option.bind_some, Int.toNat_natCast, c32r7])
      (repeat (with_reducible intro _)); refine go_seq ?_
      have hctl : x.ctl = 0 ∨ x.ctl = 1 ∨ x.ctl = 2 := by
        rcases f13 with h | h
        · exact .inl h.1
        · exact .inr h.1
      refine go_cut (fun e h => ∃ n : Int, e 3 = u ∧ e 6 = .int .i64 n ∧ IntKind.u8.wrap n = ((markB x).toNat : Int) ∧ h = ⟨G', [.row u 5 1 (headB (headN x)).length zc, .reg 1 [.int .i64 x.base, .int .i64 x.last, .int .i64 x.src, .int .i64 x.epoch, .int .i64 x.pid, .int .i64 x.gen, .int .i64 x.seq, .bool x.txn, .int .i64 x.ctl, .slice A x.recs.length c]], []⟩) ?_ ?_
      · (repeat first | (with_reducible intro _) | refine go_seq ?_ | refine go_skip ?_ | refine go_lab ?_ | refine go_blk ?_ | refine go_b ?_ | refine go_n ?_ | refine go_scp ?_); refine go_r 0 0 (by decide) ?_; (try simp -implicitDefEqProofs only [kR_e, kQ_e, push_cast, Nat.reduceBEq, Nat.reduceAdd, Nat.reduceSub, Nat.reduceMul, Nat.reduceLT, Nat.reduceLeDiff, Nat.reduceEqDiff, reduceIte, Bool.not_true, Bool.not_false, true_and, and_true, Option.map_some, Option.bind_some, Int.toNat_natCast, c32r8])
        (repeat first | (with_reducible intro _) | refine go_seq ?_ | refine go_skip ?_ | refine go_lab ?_ | refine go_blk ?_ | refine go_b ?_ | refine go_n ?_ | refine go_scp ?_); refine go_c ?_; (try simp -implicitDefEqProofs only [kR_e, kQ_e, push_cast, Nat.reduceBEq, Nat.reduceAdd, Nat.reduceSub, Nat.reduceMul, Nat.reduceLT, Nat.reduceLeDiff, Nat.reduceEqDiff, reduceIte, Bool.not_true, Bool.not_false, true_and, and_true, Option.map_some, Option.bind_some, Int.toNat_natCast])
        refine gb (fun k1 => ?_) (fun k1 => ?_)
        · (repeat first | (with_reducible intro _) | refine go_seq ?_ | refine go_skip ?_ | refine go_lab ?_ | refine go_blk ?_ | refine go_b ?_ | refine go_n ?_ | refine go_scp ?_); refine go_r 42 44 (by decide) ?_; (try simp -implicitDefEqProofs only [kR_e, kQ_e, push_cast, Nat.reduceBEq, Nat.reduceAdd, Nat.reduceSub, Nat.reduceMul, Nat.reduceLT, Nat.reduceLeDiff, Nat.reduceEqDiff, reduceIte, Bool.not_true, Bool.not_false, true_and, and_true, Option.map_some, Option.bind_some, Int.toNat_natCast, c32r9])
          (repeat first | (with_reducible intro _) | refine go_seq ?_ | refine go_skip ?_ | refine go_lab ?_ | refine go_blk ?_ | refine go_b ?_ | refine go_n ?_ | refine go_scp ?_)
          refine go_l ⟨IntKind.i64.wrap (x.ctl + 4), by (try simp -implicitDefEqProofs only [kR_e, kQ_e, push_cast, Nat.reduceBEq, Nat.reduceAdd, Nat.reduceSub, Nat.reduceMul, Nat.reduceLT, Nat.reduceLeDiff, Nat.reduceEqDiff, reduceIte, Bool.not_true, Bool.not_false, true_and, and_true, Option.map_some, Option.bind_some, Int.toNat_natCast]), by (try simp -implicitDefEqProofs only [kR_e, kQ_e, push_cast, Nat.reduceBEq, Nat.reduceAdd, Nat.reduceSub, Nat.reduceMul, Nat.reduceLT, Nat.reduceLeDiff, Nat.reduceEqDiff, reduceIte, Bool.not_true, Bool.not_false, true_and, and_true, Option.map_some, Option.bind_some, Int.toNat_natCast]), ?_, rfl⟩
          rw [mark_r hctl, markB, if_pos k1]
        · (repeat first | (with_reducible intro _) | refine go_seq ?_ | refine go_skip ?_ | refine go_lab ?_ | refine go_blk ?_ | refine go_b ?_ | refine go_n ?_ | refine go_scp ?_)
          refine go_l ⟨x.ctl, by (try simp -implicitDefEqProofs only [kR_e, kQ_e, push_cast, Nat.reduceBEq, Nat.reduceAdd, Nat.reduceSub, Nat.reduceMul, Nat.reduceLT, Nat.reduceLeDiff, Nat.reduceEqDiff, reduceIte, Bool.not_true, Bool.not_false, true_and, and_true, Option.map_some, Option.bind_some, Int.toNat_natCast]), by (try simp -implicitDefEqProofs only [kR_e, kQ_e, push_cast, Nat.reduceBEq, Nat.reduceAdd, Nat.reduceSub, Nat.reduceMul, Nat.reduceLT, Nat.reduceLeDiff, Nat.reduceEqDiff, reduceIte, Bool.not_true, Bool.not_false, true_and, and_true, Option.map_some, Option.bind_some, Int.toNat_natCast]), ?_, rfl⟩
          rw [mark_0 hctl, markB, if_neg (by rw [k1]; simp)]
          rfl
      rintro e h ⟨nm, e3, e6, hnm, rfl⟩
      refine go_keep [3, 6] ?_
      (try simp -implicitDefEqProofs only [kR_e, kQ_e, push_cast, Nat.reduceBEq, Nat.reduceAdd, Nat.reduceSub, Nat.reduceMul, Nat.reduceLT, Nat.reduceLeDiff, Nat.reduceEqDiff, reduceIte, Bool.not_true, Bool.not_false, true_and, and_true, Option.map_some, Option.bind_some, Int.toNat_natCast, e3, e6])
      (repeat first | (with_reducible intro _) | refine go_seq ?_ | refine go_skip ?_ | refine go_lab ?_ | refine go_blk ?_ | refine go_b ?_ | refine go_n ?_ | refine go_scp ?_); refine go_x _ (.cons _ (List.Sublist.refl _)) (by decide) ?_; (try simp -implicitDefEqProofs only [kR_e, kQ_e, push_cast, Nat.reduceBEq, Nat.reduceAdd, Nat.reduceSub, Nat.reduceMul, Nat.reduceLT, Nat.reduceLeDiff, Nat.reduceEqDiff, reduceIte, Bool.not_true, Bool.not_false, true_and, and_true, Option.map_some, Option.bind_some, Int.toNat_natCast, c32r10, hnm])
      intro bk hbk
      refine ⟨grow_L (fun _ _ h => h) (.cons _ (.cons _ (List.Sublist.refl _))), ?_⟩
      (try simp -implicitDefEqProofs only [kR_e, kQ_e, push_cast, Nat.reduceBEq, Nat.reduceAdd, Nat.reduceSub, Nat.reduceMul, Nat.reduceLT, Nat.reduceLeDiff, Nat.reduceEqDiff, reduceIte, Bool.not_true, Bool.not_false, true_and, and_true, Option.map_some, Option.bind_some, Int.toNat_natCast])
      refine app8 (L1 := []) (L2 := [_]) (x := markB x) rfl rfl hcs (by omega) fun A' c' zc' hzc => ?_
      (try simp -implicitDefEqProofs only [kR_e, kQ_e, push_cast, Nat.reduceBEq, Nat.reduceAdd, Nat.reduceSub, Nat.reduceMul, Nat.reduceLT, Nat.reduceLeDiff, Nat.reduceEqDiff, reduceIte, Bool.not_true, Bool.not_false, true_and, and_true, Option.map_some, Option.bind_some, Int.toNat_natCast])
      refine ⟨grow_L (fun _ _ h => h) (.cons _ (.cons _ (List.Sublist.refl _))), ?_⟩
      (try simp -implicitDefEqProofs only [kR_e, kQ_e, push_cast, Nat.reduceBEq, Nat.reduceAdd, Nat.reduceSub, Nat.reduceMul, Nat.reduceLT, Nat.reduceLeDiff, Nat.reduceEqDiff, reduceIte, Bool.not_true, Bool.not_false, true_and, and_true, Option.map_some, Option.bind_some, Int.toNat_natCast])
      refine callsH_gx F51.enters (gx_slv_at [_] _ (by decide) hzc) ?_
      rintro h' ⟨G4, rfl, hg4, hv4⟩
      refine (RPutVar_ok _ x.recs.length (by unfold I64; omega) _ G4 hv4 (by simp; omega) _ []).mono ?_
      rintro r h' ⟨G5, L', rfl, hg5, ys5, hys5, rfl⟩
      refine ⟨grow_L (hg4.trans hg5) (.cons _ (.cons _ (List.Sublist.refl _))), ?_⟩
      (try simp -implicitDefEqProofs only [kR_e, kQ_e, push_cast, Nat.reduceBEq, Nat.reduceAdd, Nat.reduceSub, Nat.reduceMul, Nat.reduceLT, Nat.reduceLeDiff, Nat.reduceEqDiff, reduceIte, Bool.not_true, Bool.not_false, true_and, and_true, Option.map_some, Option.bind_some, Int.toNat_natCast])
      have hpl := pvB_len x.recs.length
      (repeat first | (with_reducible intro _) | refine go_seq ?_)
      refine go_ghost (ghost_sub (L' := [.row r 5 1 (headB (headN x) ++ [markB x] ++ pvB x.recs.length).length ys5, .reg 1 [.int .i64 x.base, .int .i64 x.last, .int .i64 x.src, .int .i64 x.epoch, .int .i64 x.pid, .int .i64 x.gen, .int .i64 x.seq, .bool x.txn, .int .i64 x.ctl, .slice A x.recs.length c]]) (.cons_cons _ (.cons _ (List.Sublist.refl _)))) ?_
      generalize hP : headB (headN x) ++ [markB x] ++ pvB x.recs.length = P at hys5 ⊢
      have hPl : P.length ≤ 90 := by rw [← hP]; simp; omega
      have hA5 := hA.le (hgg'.trans (hg4.trans hg5)) (E' := RR) fun _ _ h => h
      (repeat first | (with_reducible intro _) | refine go_seq ?_ | refine go_skip ?_ | refine go_lab ?_ | refine go_blk ?_ | refine go_b ?_ | refine go_n ?_ | refine go_scp ?_); refine go_r 0 0 (by decide) ?_; (try simp -implicitDefEqProofs only [kR_e, kQ_e, push_cast, Nat.reduceBEq, Nat.reduceAdd, Nat.reduceSub, Nat.reduceMul, Nat.reduceLT, Nat.reduceLeDiff, Nat.reduceEqDiff, reduceIte, Bool.not_true, Bool.not_false, true_and, and_true, Option.map_some, Option.bind_some, Int.toNat_natCast, c32r11])
      (repeat first | (with_reducible intro _) | refine go_seq ?_ | refine go_skip ?_ | refine go_lab ?_ | refine go_blk ?_ | refine go_b ?_ | refine go_n ?_ | refine go_scp ?_)
      refine go_loop (fun e h => ∃ (k : Nat) (G' : Nat → Option Obj) (u : Value) (zc zs : List Value), (k ≤ x.recs.length ∧ Gle G5 G' ∧ Cells UE 1 (P ++ tailK x k) zc ∧ (tailK x k).length ≤ 179 * k) ∧ e 56 = .int .i64 k ∧ e 55 = .int .i64 x.recs.length ∧ e 54 = .slice A x.recs.length c ∧ e 3 = u ∧ h.G = G' ∧ h.D = [] ∧ [.row u 5 1 (P ++ tailK x k).length zc, .reg 1 [.int .i64 x.base, .int .i64 x.last, .int .i64 x.src, .int .i64 x.epoch, .int .i64 x.pid, .int .i64 x.gen, .int .i64 x.seq, .bool x.txn, .int .i64 x.ctl, .slice A x.recs.length c]].Sublist h.L) (fun e h => x.recs.length - iv (e 56)) ?_ ?_
      · exact ⟨0, G5, r, ys5, [], ⟨Nat.zero_le _, .refl _, by simpa [tailK_0] using hys5, by simp [tailK_0]⟩, by (try simp -implicitDefEqProofs only [kR_e, kQ_e, push_cast, Nat.reduceBEq, Nat.reduceAdd, Nat.reduceSub, Nat.reduceMul, Nat.reduceLT, Nat.reduceLeDiff, Nat.reduceEqDiff, reduceIte, Bool.not_true, Bool.not_false, true_and, and_true, Option.map_some, Option.bind_some, Int.toNat_natCast]), by (try simp -implicitDefEqProofs only [kR_e, kQ_e, push_cast, Nat.reduceBEq, Nat.reduceAdd, Nat.reduceSub, Nat.reduceMul, Nat.reduceLT, Nat.reduceLeDiff, Nat.reduceEqDiff, reduceIte, Bool.not_true, Bool.not_false, true_and, and_true, Option.map_some, Option.bind_some, Int.toNat_natCast]), by (try simp -implicitDefEqProofs only [kR_e, kQ_e, push_cast, Nat.reduceBEq, Nat.reduceAdd, Nat.reduceSub, Nat.reduceMul, Nat.reduceLT, Nat.reduceLeDiff, Nat.reduceEqDiff, reduceIte, Bool.not_true, Bool.not_false, true_and, and_true, Option.map_some, Option.bind_some, Int.toNat_natCast]), by (try simp -implicitDefEqProofs only [kR_e, kQ_e, push_cast, Nat.reduceBEq, Nat.reduceAdd, Nat.reduceSub, Nat.reduceMul, Nat.reduceLT, Nat.reduceLeDiff, Nat.reduceEqDiff, reduceIte, Bool.not_true, Bool.not_false, true_and, and_true, Option.map_some, Option.bind_some, Int.toNat_natCast]), rfl, rfl, by simp [tailK_0]⟩
      · rintro e ⟨G'', L, D⟩ ⟨k, G2, u2, zc2, -, ⟨hk, hgg2, hcs2, hrl⟩, e56, e55, e54, e3, hG, hD, hL⟩
        dsimp only at hG hD hL
        subst hG hD
        refine go_ghost (ghost_sub hL) ?_
        refine go_keep [3, 54, 55, 56] ?_
        (try simp -implicitDefEqProofs only [kR_e, kQ_e, push_cast, Nat.reduceBEq, Nat.reduceAdd, Nat.reduceSub, Nat.reduceMul, Nat.reduceLT, Nat.reduceLeDiff, Nat.reduceEqDiff, reduceIte, Bool.not_true, Bool.not_false, true_and, and_true, Option.map_some, Option.bind_some, Int.toNat_natCast, e3, e54, e55, e56])
        (repeat first | (with_reducible intro _) | refine go_seq ?_ | refine go_skip ?_ | refine go_lab ?_ | refine go_blk ?_ | refine go_b ?_ | refine go_n ?_ | refine go_scp ?_); refine go_r 0 0 (by decide) ?_; (try simp -implicitDefEqProofs only [kR_e, kQ_e, push_cast, Nat.reduceBEq, Nat.reduceAdd, Nat.reduceSub, Nat.reduceMul, Nat.reduceLT, Nat.reduceLeDiff, Nat.reduceEqDiff, reduceIte, Bool.not_true, Bool.not_false, true_and, and_true, Option.map_some, Option.bind_some, Int.toNat_natCast, c32r12])
        (repeat first | (with_reducible intro _) | refine go_seq ?_ | refine go_skip ?_ | refine go_lab ?_ | refine go_blk ?_ | refine go_b ?_ | refine go_n ?_ | refine go_scp ?_); refine go_c ?_; (try simp -implicitDefEqProofs only [kR_e, kQ_e, push_cast, Nat.reduceBEq, Nat.reduceAdd, Nat.reduceSub, Nat.reduceMul, Nat.reduceLT, Nat.reduceLeDiff, Nat.reduceEqDiff, reduceIte, Bool.not_true, Bool.not_false, true_and, and_true, Option.map_some, Option.bind_some, Int.toNat_natCast])
        refine gb (fun ht => ?_) (fun ht => ?_)
        · have hkl : k < x.recs.length := by simpa using ht
          have hw3 := inc_i k c (by omega) hm
          obtain ⟨r, hr⟩ : ∃ r, x.recs[k]? = some r := ⟨x.recs[k], List.getElem?_eq_getElem (by omega)⟩
          obtain ⟨r0, h0⟩ : ∃ r, x.recs[0]? = some r := ⟨x.recs[0], List.getElem?_eq_getElem (by omega)⟩
          have hsucc := tailK_succ h0 hr
          have hck0 := hmx.1 r0 (List.mem_of_getElem? h0)
          obtain ⟨⟨-, q0⟩, -, -⟩ := chk_small hck0
          simp [inO] at q0
          have hst : I64 r0.stamp := by unfold I64; omega
          have hpst := pvB_len r0.stamp
          have hckr := hmx.1 r (List.mem_of_getElem? hr)
          have hcs' := chk_small hckr
          have hplr := prB_len (base := x.base) (stamp := r0.stamp) hcs'.2.1 hcs'.2.2
          have hput : putR r x.base r0.stamp = (prB r x.base r0.stamp, 0) := by
            rw [putR, if_neg (by simp [hckr]), if_neg (by simp [inO, f1, q0])]
          have hAk := hA5.le hgg2 (E' := RR) fun _ _ h => h
          (repeat first | (with_reducible intro _) | refine go_skip ?_ | refine go_b ?_)
          (repeat first | (with_reducible intro _) | refine go_seq ?_ | refine go_skip ?_ | refine go_lab ?_ | refine go_blk ?_ | refine go_b ?_ | refine go_n ?_ | refine go_scp ?_); refine go_r 58 61 (by decide) ?_; (try simp -implicitDefEqProofs only [kR_e, kQ_e, push_cast, Nat.reduceBEq, Nat.reduceAdd, Nat.reduceSub, Nat.reduceMul, Nat.reduceLT, Nat.reduceLeDiff, Nat.reduceEqDiff, reduceIte, Bool.not_true, Bool.not_false, true_and, and_true, Option.map_some, Option.bind_some, Int.toNat_natCast, c32r13])
          refine hAk.x_ld hr rfl rfl ?_
          rintro a1 ha1 cs ⟨rfl, -⟩
          have hPut := RPut_ok r x.base r0.stamp
          unfold cellR at hPut ⊢
          (try simp -implicitDefEqProofs only [kR_e, kQ_e, push_cast, Nat.reduceBEq, Nat.reduceAdd, Nat.reduceSub, Nat.reduceMul, Nat.reduceLT, Nat.reduceLeDiff, Nat.reduceEqDiff, reduceIte, Bool.not_true, Bool.not_false, true_and, and_true, Option.map_some, Option.bind_some, Int.toNat_natCast])
          (repeat (with_reducible intro _)); refine go_seq ?_
          refine go_ghost (ghost_perm (.swap _ _ _)) ?_
          refine go_cut (fun e h => ∃ (u : Value) (zc : List Value) (G3 : Nat → Option Obj), e 56 = .int .i64 k ∧ e 55 = .int .i64 x.recs.length ∧ e 54 = .slice A x.recs.length c ∧ e 3 = u ∧ Cells UE 1 (P ++ tailK x k ++ (if k = 0 then pvB r0.stamp else [])) zc ∧ Gle G'' G3 ∧
            h = ⟨G3, [.row u 5 1 (P ++ tailK x k ++ (if k = 0 then pvB r0.stamp else [])).length zc, .reg 8 [.int .i64 r.off, .string r.key, .string r.val, .bool r.dead, .int .i64 r.stamp], .reg 1 [.int .i64 x.base, .int .i64 x.last, .int .i64 x.src, .int .i64 x.epoch, .int .i64 x.pid, .int .i64 x.gen, .int .i64 x.seq, .bool x.txn, .int .i64 x.ctl, .slice A x.recs.length c]], []⟩) ?_ ?_
          · (repeat first | (with_reducible intro _) | refine go_seq ?_ | refine go_skip ?_ | refine go_lab ?_ | refine go_blk ?_ | refine go_b ?_ | refine go_n ?_ | refine go_scp ?_); refine go_r 61 62 (by decide) ?_; (try simp -implicitDefEqProofs only [kR_e, kQ_e, push_cast, Nat.reduceBEq, Nat.reduceAdd, Nat.reduceSub, Nat.reduceMul, Nat.reduceLT, Nat.reduceLeDiff, Nat.reduceEqDiff, reduceIte, Bool.not_true, Bool.not_false, true_and, and_true, Option.map_some, Option.bind_some, Int.toNat_natCast, c32r14])
            (repeat first | (with_reducible intro _) | refine go_seq ?_ | refine go_skip ?_ | refine go_lab ?_ | refine go_blk ?_ | refine go_b ?_ | refine go_n ?_ | refine go_scp ?_); refine go_c ?_; (try simp -implicitDefEqProofs only [kR_e, kQ_e, push_cast, Nat.reduceBEq, Nat.reduceAdd, Nat.reduceSub, Nat.reduceMul, Nat.reduceLT, Nat.reduceLeDiff, Nat.reduceEqDiff, reduceIte, Bool.not_true, Bool.not_false, true_and, and_true, Option.map_some, Option.bind_some, Int.toNat_natCast])
            refine gb (fun k1 => ?_) (fun k1 => ?_)
            · have hk0 : k = 0 := by simpa using k1
              subst hk0
              obtain rfl : r = r0 := by rw [h0] at hr; cases hr; rfl
              (repeat first | (with_reducible intro _) | refine go_seq ?_ | refine go_skip ?_ | refine go_lab ?_ | refine go_blk ?_ | refine go_b ?_ | refine go_n ?_ | refine go_scp ?_); refine go_r 63 67 (by decide) ?_; (try simp -implicitDefEqProofs only [kR_e, kQ_e, push_cast, Nat.reduceBEq, Nat.reduceAdd, Nat.reduceSub, Nat.reduceMul, Nat.reduceLT, Nat.reduceLeDiff, Nat.reduceEqDiff, reduceIte, Bool.not_true, Bool.not_false, true_and, and_true, Option.map_some, Option.bind_some, Int.toNat_natCast, c32r15])
              refine callsH_gx F51.enters (gx_slv_at [] _ (by decide) hcs2) ?_
              rintro h' ⟨G6, rfl, hg6, hv6⟩
              refine (RPutVar_ok _ r.stamp hst _ G6 hv6 (by simp; omega) _ []).mono ?_
              rintro r h' ⟨G7, L', rfl, hg7, ys7, hys7, rfl⟩
              (try simp -implicitDefEqProofs only [kR_e, kQ_e, push_cast, Nat.reduceBEq, Nat.reduceAdd, Nat.reduceSub, Nat.reduceMul, Nat.reduceLT, Nat.reduceLeDiff, Nat.reduceEqDiff, reduceIte, Bool.not_true, Bool.not_false, true_and, and_true, Option.map_some, Option.bind_some, Int.toNat_natCast])
              (repeat first | (with_reducible intro _) | refine go_seq ?_ | refine go_skip ?_ | refine go_lab ?_ | refine go_blk ?_ | refine go_b ?_ | refine go_n ?_ | refine go_scp ?_)
              exact go_l ⟨_, ys7, G7, by (try simp -implicitDefEqProofs only [kR_e, kQ_e, push_cast, Nat.reduceBEq, Nat.reduceAdd, Nat.reduceSub, Nat.reduceMul, Nat.reduceLT, Nat.reduceLeDiff, Nat.reduceEqDiff, reduceIte, Bool.not_true, Bool.not_false, true_and, and_true, Option.map_some, Option.bind_some, Int.toNat_natCast]), by (try simp -implicitDefEqProofs only [kR_e, kQ_e, push_cast, Nat.reduceBEq, Nat.reduceAdd, Nat.reduceSub, Nat.reduceMul, Nat.reduceLT, Nat.reduceLeDiff, Nat.reduceEqDiff, reduceIte, Bool.not_true, Bool.not_false, true_and, and_true, Option.map_some, Option.bind_some, Int.toNat_natCast]), by (try simp -implicitDefEqProofs only [kR_e, kQ_e, push_cast, Nat.reduceBEq, Nat.reduceAdd, Nat.reduceSub, Nat.reduceMul, Nat.reduceLT, Nat.reduceLeDiff, Nat.reduceEqDiff, reduceIte, Bool.not_true, Bool.not_false, true_and, and_true, Option.map_some, Option.bind_some, Int.toNat_natCast]), by (try simp -implicitDefEqProofs only [kR_e, kQ_e, push_cast, Nat.reduceBEq, Nat.reduceAdd, Nat.reduceSub, Nat.reduceMul, Nat.reduceLT, Nat.reduceLeDiff, Nat.reduceEqDiff, reduceIte, Bool.not_true, Bool.not_false, true_and, and_true, Option.map_some, Option.bind_some, Int.toNat_natCast]), hys7, hg6.trans hg7, rfl⟩
            · have hk0 : ¬ k = 0 := by simpa using k1
              rw [if_neg hk0, List.append_nil]
              (repeat first | (with_reducible intro _) | refine go_seq ?_ | refine go_skip ?_ | refine go_lab ?_ | refine go_blk ?_ | refine go_b ?_ | refine go_n ?_ | refine go_scp ?_)
              exact go_l ⟨_, zc2, G'', by (try simp -implicitDefEqProofs only [kR_e, kQ_e, push_cast, Nat.reduceBEq, Nat.reduceAdd, Nat.reduceSub, Nat.reduceMul, Nat.reduceLT, Nat.reduceLeDiff, Nat.reduceEqDiff, reduceIte, Bool.not_true, Bool.not_false, true_and, and_true, Option.map_some, Option.bind_some, Int.toNat_natCast]), by (try simp -implicitDefEqProofs only [kR_e, kQ_e, push_cast, Nat.reduceBEq, Nat.reduceAdd, Nat.reduceSub, Nat.reduceMul, Nat.reduceLT, Nat.reduceLeDiff, Nat.reduceEqDiff, reduceIte, Bool.not_true, Bool.not_false, true_and, and_true, Option.map_some, Option.bind_some, Int.toNat_natCast]), by (try simp -implicitDefEqProofs only [kR_e, kQ_e, push_cast, Nat.reduceBEq, Nat.reduceAdd, Nat.reduceSub, Nat.reduceMul, Nat.reduceLT, Nat.reduceLeDiff, Nat.reduceEqDiff, reduceIte, Bool.not_true, Bool.not_false, true_and, and_true, Option.map_some, Option.bind_some, Int.toNat_natCast]), by (try simp -implicitDefEqProofs only [kR_e, kQ_e, push_cast, Nat.reduceBEq, Nat.reduceAdd, Nat.reduceSub, Nat.reduceMul, Nat.reduceLT, Nat.reduceLeDiff, Nat.reduceEqDiff, reduceIte, Bool.not_true, Bool.not_false, true_and, and_true, Option.map_some, Option.bind_some, Int.toNat_natCast]), hcs2, .refl _, rfl⟩
          rintro e h ⟨u3, zc3, G3, e56, e55, e54, e3, hcs3, hg3, rfl⟩
          refine go_keep [3, 54, 55, 56] ?_
          (try simp -implicitDefEqProofs only [kR_e, kQ_e, push_cast, Nat.reduceBEq, Nat.reduceAdd, Nat.reduceSub, Nat.reduceMul, Nat.reduceLT, Nat.reduceLeDiff, Nat.reduceEqDiff, reduceIte, Bool.not_true, Bool.not_false, true_and, and_true, Option.map_some, Option.bind_some, Int.toNat_natCast, e3, e54, e55, e56])
          have hA3 := hAk.le hg3 (E' := RR) fun _ _ h => h
          (repeat first | (with_reducible intro _) | refine go_seq ?_ | refine go_skip ?_ | refine go_lab ?_ | refine go_blk ?_ | refine go_b ?_ | refine go_n ?_ | refine go_scp ?_); refine go_x _ (.cons _ (List.Sublist.refl _)) (by decide) ?_; (try simp -implicitDefEqProofs only [kR_e, kQ_e, push_cast, Nat.reduceBEq, Nat.reduceAdd, Nat.reduceSub, Nat.reduceMul, Nat.reduceLT, Nat.reduceLeDiff, Nat.reduceEqDiff, reduceIte, Bool.not_true, Bool.not_false, true_and, and_true, Option.map_some, Option.bind_some, Int.toNat_natCast, c32r16])
          refine hA3.y_lf h0 rfl rfl (fun cs h => by rw [h.1]; rfl) fun a ha => ?_
          (try simp -implicitDefEqProofs only [kR_e, kQ_e, push_cast, Nat.reduceBEq, Nat.reduceAdd, Nat.reduceSub, Nat.reduceMul, Nat.reduceLT, Nat.reduceLeDiff, Nat.reduceEqDiff, reduceIte, Bool.not_true, Bool.not_false, true_and, and_true, Option.map_some, Option.bind_some, Int.toNat_natCast])
          refine (hPut G3 _ []).mono ?_
          rintro v h' ⟨G8, L', rfl, hg8, w, rfl, ys8, hys8, rfl⟩
          rw [hput] at hys8 ⊢
          refine ⟨grow_L hg8 (.cons _ (.cons _ (List.Sublist.refl _))), ?_⟩
          (try simp -implicitDefEqProofs only [kR_e, kQ_e, push_cast, Nat.reduceBEq, Nat.reduceAdd, Nat.reduceSub, Nat.reduceMul, Nat.reduceLT, Nat.reduceLeDiff, Nat.reduceEqDiff, reduceIte, Bool.not_true, Bool.not_false, true_and, and_true, Option.map_some, Option.bind_some, Int.toNat_natCast])
          (repeat first | (with_reducible intro _) | refine go_seq ?_)
          refine go_gx (gx_slv_at [] _ (by decide) hys8) ?_
          rintro h' ⟨G9, rfl, hg9, hv9⟩
          (repeat first | (with_reducible intro _) | refine go_seq ?_ | refine go_skip ?_ | refine go_lab ?_ | refine go_blk ?_ | refine go_b ?_ | refine go_n ?_ | refine go_scp ?_); refine go_r 79 82 (by decide) ?_; (try simp -implicitDefEqProofs only [kR_e, kQ_e, push_cast, Nat.reduceBEq, Nat.reduceAdd, Nat.reduceSub, Nat.reduceMul, Nat.reduceLT, Nat.reduceLeDiff, Nat.reduceEqDiff, reduceIte, Bool.not_true, Bool.not_false, true_and, and_true, Option.map_some, Option.bind_some, Int.toNat_natCast, c32r17])
          refine apX_v (L1 := []) (.inl rfl) hv9 rfl UE1 (by simp; unfold maxLen; split <;> simp <;> omega) fun ys' A' c' hc' => ?_
          have hh := hcs3.app hc'
          have hassoc : P ++ tailK x k ++ (if k = 0 then pvB r0.stamp else []) ++ prB r x.base r0.stamp = P ++ tailK x (k + 1) := by rw [hsucc]; simp
          rw [hassoc] at hh
          rw [← List.length_append, hassoc]
          (try simp -implicitDefEqProofs only [kR_e, kQ_e, push_cast, Nat.reduceBEq, Nat.reduceAdd, Nat.reduceSub, Nat.reduceMul, Nat.reduceLT, Nat.reduceLeDiff, Nat.reduceEqDiff, reduceIte, Bool.not_true, Bool.not_false, true_and, and_true, Option.map_some, Option.bind_some, Int.toNat_natCast])
          (repeat first | (with_reducible intro _) | refine go_seq ?_ | refine go_skip ?_ | refine go_lab ?_ | refine go_blk ?_ | refine go_b ?_ | refine go_n ?_ | refine go_scp ?_); refine go_r 82 83 (by decide) ?_; (try simp -implicitDefEqProofs only [kR_e, kQ_e, push_cast, Nat.reduceBEq, Nat.reduceAdd, Nat.reduceSub, Nat.reduceMul, Nat.reduceLT, Nat.reduceLeDiff, Nat.reduceEqDiff, reduceIte, Bool.not_true, Bool.not_false, true_and, and_true, Option.map_some, Option.bind_some, Int.toNat_natCast, c32r18, hw3])
          (repeat first | (with_reducible intro _) | refine go_seq ?_ | refine go_skip ?_ | refine go_lab ?_ | refine go_blk ?_ | refine go_b ?_ | refine go_n ?_ | refine go_scp ?_)
          refine go_l ⟨⟨k + 1, G9, _, _, [], ⟨by omega, hgg2.trans (hg3.trans (hg8.trans hg9)), hh, by rw [hsucc]; simp only [List.length_append]; split <;> (try simp only [List.length_nil]) <;> omega⟩, by (try simp -implicitDefEqProofs only [kR_e, kQ_e, push_cast, Nat.reduceBEq, Nat.reduceAdd, Nat.reduceSub, Nat.reduceMul, Nat.reduceLT, Nat.reduceLeDiff, Nat.reduceEqDiff, reduceIte, Bool.not_true, Bool.not_false, true_and, and_true, Option.map_some, Option.bind_some, Int.toNat_natCast]), by (try simp -implicitDefEqProofs only [kR_e, kQ_e, push_cast, Nat.reduceBEq, Nat.reduceAdd, Nat.reduceSub, Nat.reduceMul, Nat.reduceLT, Nat.reduceLeDiff, Nat.reduceEqDiff, reduceIte, Bool.not_true, Bool.not_false, true_and, and_true, Option.map_some, Option.bind_some, Int.toNat_natCast]), by (try simp -implicitDefEqProofs only [kR_e, kQ_e, push_cast, Nat.reduceBEq, Nat.reduceAdd, Nat.reduceSub, Nat.reduceMul, Nat.reduceLT, Nat.reduceLeDiff, Nat.reduceEqDiff, reduceIte, Bool.not_true, Bool.not_false, true_and, and_true, Option.map_some, Option.bind_some, Int.toNat_natCast]), by (try simp -implicitDefEqProofs only [kR_e, kQ_e, push_cast, Nat.reduceBEq, Nat.reduceAdd, Nat.reduceSub, Nat.reduceMul, Nat.reduceLT, Nat.reduceLeDiff, Nat.reduceEqDiff, reduceIte, Bool.not_true, Bool.not_false, true_and, and_true, Option.map_some, Option.bind_some, Int.toNat_natCast]), rfl, rfl, .cons_cons _ (.cons _ (List.Sublist.refl _))⟩, ?_⟩
          (try simp -implicitDefEqProofs only [kR_e, kQ_e, push_cast, Nat.reduceBEq, Nat.reduceAdd, Nat.reduceSub, Nat.reduceMul, Nat.reduceLT, Nat.reduceLeDiff, Nat.reduceEqDiff, reduceIte, Bool.not_true, Bool.not_false, true_and, and_true, Option.map_some, Option.bind_some, Int.toNat_natCast])
          omega
        · have hkl : k = x.recs.length := by simp at ht; omega
          subst hkl
          rw [tailK_n] at hcs2 hrl
          have hbody : bodyB x = P ++ tailB x := by rw [bodyB, ← hP]
          refine go_exit ?_
          (try simp -implicitDefEqProofs only [kR_e, kQ_e, push_cast, Nat.reduceBEq, Nat.reduceAdd, Nat.reduceSub, Nat.reduceMul, Nat.reduceLT, Nat.reduceLeDiff, Nat.reduceEqDiff, reduceIte, Bool.not_true, Bool.not_false, true_and, and_true, Option.map_some, Option.bind_some, Int.toNat_natCast])
          rw [tailK_n, ← hbody]
          rw [← hbody] at hcs2
          have hbl : (bodyB x).length ≤ 5000 := by rw [hbody]; simp; omega
          (repeat first | (with_reducible intro _) | refine go_seq ?_ | refine go_skip ?_ | refine go_lab ?_ | refine go_blk ?_ | refine go_b ?_ | refine go_n ?_ | refine go_scp ?_); refine go_r 83 85 (by decide) ?_; (try simp -implicitDefEqProofs only [kR_e, kQ_e, push_cast, Nat.reduceBEq, Nat.reduceAdd, Nat.reduceSub, Nat.reduceMul, Nat.reduceLT, Nat.reduceLeDiff, Nat.reduceEqDiff, reduceIte, Bool.not_true, Bool.not_false, true_and, and_true, Option.map_some, Option.bind_some, Int.toNat_natCast, c32r19])
          refine callsH_gx F53.enters (gx_slv_at [] _ (by decide) hcs2) ?_
          rintro h' ⟨G7, rfl, hg7, hv7⟩
          refine (RSeal_ok _ _ G7 hv7 (by omega) _ []).mono ?_
          rintro r h' ⟨G8, L', rfl, hg8, ys, hys, rfl⟩
          (try simp -implicitDefEqProofs only [kR_e, kQ_e, push_cast, Nat.reduceBEq, Nat.reduceAdd, Nat.reduceSub, Nat.reduceMul, Nat.reduceLT, Nat.reduceLeDiff, Nat.reduceEqDiff, reduceIte, Bool.not_true, Bool.not_false, true_and, and_true, Option.map_some, Option.bind_some, Int.toNat_natCast])
          intro _
          have hsl := sealB_len (bodyB x)
          refine go_gx (gx_slv_at [] _ (by decide) hys) ?_
          rintro h' ⟨G9, rfl, hg9, hv9⟩
          obtain ⟨As, cs', rfl, -, -, -⟩ := id hv9
          have hwl : IntKind.u64.wrap ((sealB (bodyB x)).length : Int) = ((sealB (bodyB x)).length : Int) := by rw [IntKind.wrap_u64]; omega
          (repeat first | (with_reducible intro _) | refine go_seq ?_ | refine go_skip ?_ | refine go_lab ?_ | refine go_blk ?_ | refine go_b ?_ | refine go_n ?_ | refine go_scp ?_); refine go_r 85 91 (by decide) ?_; (try simp -implicitDefEqProofs only [kR_e, kQ_e, push_cast, Nat.reduceBEq, Nat.reduceAdd, Nat.reduceSub, Nat.reduceMul, Nat.reduceLT, Nat.reduceLeDiff, Nat.reduceEqDiff, reduceIte, Bool.not_true, Bool.not_false, true_and, and_true, Option.map_some, Option.bind_some, Int.toNat_natCast, c32r20, hwl])
          refine (ROPut_ok [] (sealB (bodyB x)).length 4 (by omega) (by omega) _ G9 SB.nil (by simp) _ []).mono ?_
          rintro r h' ⟨G10, L', rfl, hg10, ys2, hys2, rfl⟩
          simp only [List.nil_append] at hys2 ⊢
          (try simp -implicitDefEqProofs only [kR_e, kQ_e, push_cast, Nat.reduceBEq, Nat.reduceAdd, Nat.reduceSub, Nat.reduceMul, Nat.reduceLT, Nat.reduceLeDiff, Nat.reduceEqDiff, reduceIte, Bool.not_true, Bool.not_false, true_and, and_true, Option.map_some, Option.bind_some, Int.toNat_natCast])
          refine apX_v (L1 := []) (.inl rfl) (SB.le hv9 hg10) rfl UE1 (by rw [putN_len]; unfold maxLen; omega) fun ys' A' c' hc' => ?_
          have hh := hys2.app hc'
          (try simp -implicitDefEqProofs only [kR_e, kQ_e, push_cast, Nat.reduceBEq, Nat.reduceAdd, Nat.reduceSub, Nat.reduceMul, Nat.reduceLT, Nat.reduceLeDiff, Nat.reduceEqDiff, reduceIte, Bool.not_true, Bool.not_false, true_and, and_true, Option.map_some, Option.bind_some, Int.toNat_natCast])
          (repeat first | (with_reducible intro _) | refine go_seq ?_ | refine go_skip ?_ | refine go_lab ?_ | refine go_blk ?_ | refine go_b ?_ | refine go_n ?_ | refine go_scp ?_)
          refine go_ret (retQ_o _ rfl (.cons_cons _ (List.nil_sublist _)) (noRegs_row noRegs_nil) ?_)
          rw [← List.length_append]
          exact ⟨_, hh, rfl⟩
end Go.Proofs.Ytdiccicokbbcoaa

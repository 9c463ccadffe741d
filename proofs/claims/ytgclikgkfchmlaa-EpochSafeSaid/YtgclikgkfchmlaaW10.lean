/- What functions of the epoch chapter compute: part 10 of a proof. No condition. -/
import Derived.Test.YtgclikgkfchmlaaW9
set_option linter.unusedSimpArgs false
set_option linter.unusedVariables false
namespace Go.Proofs.Ytgclikgkfchmlaa
open Go Go.Kx
theorem F21 : Fun Try.prog 21 17 v21 c21 o21 := Fun.mk' Try.func21 Try.ntmps21 (by kernel_rfl) (by kernel_rfl) s21 q21
theorem F23 : Fun Try.prog 23 29 v23 c23 o23 := Fun.mk' Try.func23 Try.ntmps23 (by kernel_rfl) (by kernel_rfl) s23 q23
theorem F37 : Fun Try.prog 37 12 v37 c37 o37 := Fun.mk' Try.func37 Try.ntmps37 (by kernel_rfl) (by kernel_rfl) s37 q37

/-- What is left of a list that is cut. -/
noncomputable def cutM (l : List Epo) (off : Int) : List Epo := l.filter fun x => decide (chkN l = 0) && decide (x.2 < off)
def OwnR (zs : List Epo) (L' : List Kx.Item) (r : Value) : Prop := ∃ ys, Cells EE 2 zs ys ∧ L' = [.row r 32 2 zs.length ys]
/-- What is appended one at a time. -/
theorem app1 {P : Program} {h : H} {d : Nat} {l : List SI} {e : Env} {K : Env → H → Prop} {u : Value} {b : Nat} {zs : List Epo} {zc : List Value} {L1 L2 : List Kx.Item} {x : Epo} (hL : h.L = .row (.slice (some ⟨b, 0, none⟩) 1 1) 32 2 1 [.int .i64 x.1, .int .i64 x.2] :: L1 ++ .row u 32 2 zs.length zc :: L2)
    (hc : Cells EE 2 zs zc) (hz : zs.length ≤ 10000000) (h1 : I64 x.1) (h2 : I64 x.2)
    (hk : ∀ A' c' zc', Cells EE 2 (zs ++ [x]) zc' → kR P l d e K (.slice A' (zs ++ [x]).length c') ⟨h.G, .row (.slice (some ⟨b, 0, none⟩) 1 1) 32 2 1 [.int .i64 x.1, .int .i64 x.2] :: L1 ++ .row (.slice A' (zs ++ [x]).length c') 32 2 (zs ++ [x]).length zc' :: L2, h.D⟩) :
    apX P u (.slice (some ⟨b, 0, none⟩) 1 1) 32 2 16 d l e h K := by
  refine ⟨.row (.slice (some ⟨b, 0, none⟩) 1 1) 32 2 1 [.int .i64 x.1, .int .i64 x.2] :: L1, zs.length, zc, L2, 1, [.int .i64 x.1, .int .i64 x.2], .inl hL, srcH_row (h := h) (by rw [hL]; exact .head _) ?_ rfl, by unfold maxLen; omega, fun A' c' => ?_⟩
  · intro u hu; simp at hu; rcases hu with rfl | rfl <;> rfl
  · have := hk A' c' (zc ++ [.int .i64 x.1, .int .i64 x.2]) (hc.app (.one ⟨rfl, h1, h2⟩ rfl))
    simp only [List.length_append, List.length_cons, List.length_nil, Nat.zero_add] at this
    exact this

theorem Cut2_ok (l : List Epo) (off : Int) (v : Value) (G : Nat → Option Obj) (hl : SEpo G v l) (hb : l.length ≤ 1000000) :
    FnO Try.prog 23 #[v, .int .i64 off] G [] (fun _ L' r => OwnR (cutM l off) L' r) := by
  refine F23.fnO (by simp) noRegs_nil (go_of ?_)
  have hl0 := hl
  obtain ⟨A, c, rfl, hc, hm, hA⟩ := hl
  unfold c23
  (repeat first | (with_reducible intro _) | refine go_seq ?_ | refine go_skip ?_ | refine go_lab ?_ | refine go_blk ?_ | refine go_b ?_); refine go_r 0 0 (by decide) ?_; (try simp -implicitDefEqProofs only [kR_e, kQ_e, push_cast, Nat.reduceBEq, Nat.reduceAdd, Nat.reduceSub, Nat.reduceMul, Nat.reduceLT, Nat.reduceLeDiff, Nat.reduceEqDiff, reduceIte, Bool.not_true, Bool.not_false, true_and, and_true, Option.map_some, Option.bind_some, Int.toNat_natCast, c23r0])
  (repeat first | (with_reducible intro _) | refine go_seq ?_ | refine go_skip ?_ | refine go_lab ?_ | refine go_blk ?_ | refine go_b ?_); refine go_r 0 0 (by decide) ?_; (try simp -implicitDefEqProofs only [kR_e, kQ_e, push_cast, Nat.reduceBEq, Nat.reduceAdd, Nat.reduceSub, Nat.reduceMul, Nat.reduceLT, Nat.reduceLeDiff, Nat.reduceEqDiff, reduceIte, Bool.not_true, Bool.not_false, true_and, and_true, Option.map_some, Option.bind_some, Int.toNat_natCast, c23r1])
  (repeat first | (with_reducible intro _) | refine go_seq ?_ | refine go_skip ?_ | refine go_lab ?_ | refine go_blk ?_ | refine go_b ?_); refine go_r 0 0 (by decide) ?_; (try simp -implicitDefEqProofs only [kR_e, kQ_e, push_cast, Nat.reduceBEq, Nat.reduceAdd, Nat.reduceSub, Nat.reduceMul, Nat.reduceLT, Nat.reduceLeDiff, Nat.reduceEqDiff, reduceIte, Bool.not_true, Bool.not_false, true_and, and_true, Option.map_some, Option.bind_some, Int.toNat_natCast, c23r2])
  (repeat first | (with_reducible intro _) | refine go_seq ?_ | refine go_skip ?_ | refine go_lab ?_ | refine go_blk ?_ | refine go_b ?_)
  refine go_ghost (ghost_nil none 32 2) ?_
  refine go_loop (fun e h => ∃ (k : Nat) (u : Value) (zc : List Value), (k ≤ l.length ∧ Cells EE 2 ((l.take k).filter fun x => decide (chkN l = 0) && decide (x.2 < off)) zc) ∧
      e 10 = .int .i64 k ∧ e 9 = .int .i64 l.length ∧ e 8 = .slice A l.length c ∧ e 0 = .slice A l.length c ∧ e 1 = .int .i64 off ∧ e 5 = u ∧ h.G = G ∧ h.D = [] ∧
      [Item.row u 32 2 ((l.take k).filter fun x => decide (chkN l = 0) && decide (x.2 < off)).length zc].Sublist h.L) (fun e h => l.length - iv (e 10)) ?_ ?_
  · exact ⟨0, _, [], ⟨Nat.zero_le _, .nil⟩, by (try simp -implicitDefEqProofs only [kR_e, kQ_e, push_cast, Nat.reduceBEq, Nat.reduceAdd, Nat.reduceSub, Nat.reduceMul, Nat.reduceLT, Nat.reduceLeDiff, Nat.reduceEqDiff, reduceIte, Bool.not_true, Bool.not_false, true_and, and_true, Option.map_some, Option.bind_some, Int.toNat_natCast]), by (try simp -implicitDefEqProofs only [kR_e, kQ_e, push_cast, Nat.reduceBEq, Nat.reduceAdd, Nat.reduceSub, Nat.reduceMul, Nat.reduceLT, Nat.reduceLeDiff, Nat.reduceEqDiff, reduceIte, Bool.not_true, Bool.not_false, true_and, and_true, Option.map_some, Option.bind_some, Int.toNat_natCast]), by (try simp -implicitDefEqProofs only [kR_e, kQ_e, push_cast, Nat.reduceBEq, Nat.reduceAdd, Nat.reduceSub, Nat.reduceMul, Nat.reduceLT, Nat.reduceLeDiff, Nat.reduceEqDiff, reduceIte, Bool.not_true, Bool.not_false, true_and, and_true, Option.map_some, Option.bind_some, Int.toNat_natCast]), by (try simp -implicitDefEqProofs only [kR_e, kQ_e, push_cast, Nat.reduceBEq, Nat.reduceAdd, Nat.reduceSub, Nat.reduceMul, Nat.reduceLT, Nat.reduceLeDiff, Nat.reduceEqDiff, reduceIte, Bool.not_true, Bool.not_false, true_and, and_true, Option.map_some, Option.bind_some, Int.toNat_natCast]), by (try simp -implicitDefEqProofs only [kR_e, kQ_e, push_cast, Nat.reduceBEq, Nat.reduceAdd, Nat.reduceSub, Nat.reduceMul, Nat.reduceLT, Nat.reduceLeDiff, Nat.reduceEqDiff, reduceIte, Bool.not_true, Bool.not_false, true_and, and_true, Option.map_some, Option.bind_some, Int.toNat_natCast]), rfl, rfl, rfl, List.Sublist.refl _⟩
  · rintro e ⟨G', L, D⟩ ⟨k, u, zc, ⟨hk, hcs⟩, e10, e9, e8, e0, e1, e5, hG, hD, hL⟩
    dsimp only at hG hD hL
    subst hG hD
    refine go_ghost (ghost_sub hL) ?_
    refine go_keep [0, 1, 5, 8, 9, 10] ?_
    (try simp -implicitDefEqProofs only [kR_e, kQ_e, push_cast, Nat.reduceBEq, Nat.reduceAdd, Nat.reduceSub, Nat.reduceMul, Nat.reduceLT, Nat.reduceLeDiff, Nat.reduceEqDiff, reduceIte, Bool.not_true, Bool.not_false, true_and, and_true, Option.map_some, Option.bind_some, Int.toNat_natCast, e0, e1, e5, e8, e9, e10])
    have hzl : ((l.take k).filter fun x => decide (chkN l = 0) && decide (x.2 < off)).length ≤ k := Nat.le_trans (List.length_filter_le ..) (by simp; omega)
    generalize hzs : (l.take k).filter (fun x => decide (chkN l = 0) && decide (x.2 < off)) = zs at *
    (repeat first | (with_reducible intro _) | refine go_seq ?_ | refine go_skip ?_ | refine go_lab ?_ | refine go_blk ?_ | refine go_b ?_); refine go_r 0 0 (by decide) ?_; (try simp -implicitDefEqProofs only [kR_e, kQ_e, push_cast, Nat.reduceBEq, Nat.reduceAdd, Nat.reduceSub, Nat.reduceMul, Nat.reduceLT, Nat.reduceLeDiff, Nat.reduceEqDiff, reduceIte, Bool.not_true, Bool.not_false, true_and, and_true, Option.map_some, Option.bind_some, Int.toNat_natCast, c23r3])
    (repeat first | (with_reducible intro _) | refine go_seq ?_ | refine go_skip ?_ | refine go_lab ?_ | refine go_blk ?_ | refine go_b ?_); refine go_c ?_; (try simp -implicitDefEqProofs only [kR_e, kQ_e, push_cast, Nat.reduceBEq, Nat.reduceAdd, Nat.reduceSub, Nat.reduceMul, Nat.reduceLT, Nat.reduceLeDiff, Nat.reduceEqDiff, reduceIte, Bool.not_true, Bool.not_false, true_and, and_true, Option.map_some, Option.bind_some, Int.toNat_natCast])
    refine gb (fun ht => ?_) (fun ht => ?_)
    · have hkl : k < l.length := by simpa using ht
      have hw3 := inc_i k c (by omega) hm
      obtain ⟨x, hx⟩ : ∃ x, l[k]? = some x := ⟨l[k], List.getElem?_eq_getElem (by omega)⟩
      have hnext : (l.take (k + 1)).filter (fun x => decide (chkN l = 0) && decide (x.2 < off)) = zs ++ if (decide (chkN l = 0) && decide (x.2 < off)) = true then [x] else [] := by
        rw [List.take_add_one, hx, List.filter_append, hzs]
        simp only [Option.toList_some, List.filter_cons, List.filter_nil]
      (repeat first | (with_reducible intro _) | refine go_seq ?_ | refine go_skip ?_ | refine go_lab ?_ | refine go_blk ?_ | refine go_b ?_); refine go_r 12 14 (by decide) ?_; (try simp -implicitDefEqProofs only [kR_e, kQ_e, push_cast, Nat.reduceBEq, Nat.reduceAdd, Nat.reduceSub, Nat.reduceMul, Nat.reduceLT, Nat.reduceLeDiff, Nat.reduceEqDiff, reduceIte, Bool.not_true, Bool.not_false, true_and, and_true, Option.map_some, Option.bind_some, Int.toNat_natCast, c23r4])
      refine hA.x_ld hx rfl rfl ?_
      rintro a1 ha1 cs ⟨rfl, i1, i2⟩
      (try simp -implicitDefEqProofs only [kR_e, kQ_e, push_cast, Nat.reduceBEq, Nat.reduceAdd, Nat.reduceSub, Nat.reduceMul, Nat.reduceLT, Nat.reduceLeDiff, Nat.reduceEqDiff, reduceIte, Bool.not_true, Bool.not_false, true_and, and_true, Option.map_some, Option.bind_some, Int.toNat_natCast])
      (repeat first | (with_reducible intro _) | refine go_seq ?_ | refine go_skip ?_ | refine go_lab ?_ | refine go_blk ?_ | refine go_b ?_); refine go_r 14 22 (by decide) ?_; (try simp -implicitDefEqProofs only [kR_e, kQ_e, push_cast, Nat.reduceBEq, Nat.reduceAdd, Nat.reduceSub, Nat.reduceMul, Nat.reduceLT, Nat.reduceLeDiff, Nat.reduceEqDiff, reduceIte, Bool.not_true, Bool.not_false, true_and, and_true, Option.map_some, Option.bind_some, Int.toNat_natCast, c23r5])
      refine (Check2_ok _ _ _ hl0 _ _).mono ?_
      rintro v h' ⟨rfl, rfl⟩
      (try simp -implicitDefEqProofs only [kR_e, kQ_e, push_cast, Nat.reduceBEq, Nat.reduceAdd, Nat.reduceSub, Nat.reduceMul, Nat.reduceLT, Nat.reduceLeDiff, Nat.reduceEqDiff, reduceIte, Bool.not_true, Bool.not_false, true_and, and_true, Option.map_some, Option.bind_some, Int.toNat_natCast])
      have hno : ∀ e b, (decide (chkN l = 0) && decide (x.2 < off)) = false → e 10 = .int .i64 k → e 9 = .int .i64 l.length → e 8 = .slice A l.length c → e 0 = .slice A l.length c → e 1 = .int .i64 off → e 5 = u → b = u →
          go none Try.prog 29 v23.1 v23.2 (retQ o23 fun v h => OwnR (cutM l off) h.L v) [Td.s (.reg false c23r7), Td.l (fun e' h' => (∃ (k : Nat) (u : Value) (zc : List Value), (k ≤ l.length ∧ Cells EE 2 ((l.take k).filter fun x => decide (chkN l = 0) && decide (x.2 < off)) zc) ∧
      e' 10 = .int .i64 k ∧ e' 9 = .int .i64 l.length ∧ e' 8 = .slice A l.length c ∧ e' 0 = .slice A l.length c ∧ e' 1 = .int .i64 off ∧ e' 5 = u ∧ h'.G = G' ∧ h'.D = [] ∧
      [Item.row u 32 2 ((l.take k).filter fun x => decide (chkN l = 0) && decide (x.2 < off)).length zc].Sublist h'.L) ∧ l.length - iv (e' 10) < l.length - k), Td.b 0, Td.s ((SC.reg false c23r8).seq SC.ret)] e ⟨G', [Item.reg 7 [.int .i64 x.1, .int .i64 x.2], Item.row u 32 2 zs.length zc], []⟩ := fun e b hf e10 e9 e8 e0 e1 e5 _ => by
        rw [hf] at hnext
        simp only [Bool.false_eq_true, if_false, List.append_nil] at hnext
        (repeat first | (with_reducible intro _) | refine go_seq ?_ | refine go_skip ?_ | refine go_lab ?_ | refine go_blk ?_ | refine go_b ?_); refine go_r 27 28 (by decide) ?_; (try simp -implicitDefEqProofs only [kR_e, kQ_e, push_cast, Nat.reduceBEq, Nat.reduceAdd, Nat.reduceSub, Nat.reduceMul, Nat.reduceLT, Nat.reduceLeDiff, Nat.reduceEqDiff, reduceIte, Bool.not_true, Bool.not_false, true_and, and_true, Option.map_some, Option.bind_some, Int.toNat_natCast, c23r7, e10, hw3])
        (repeat first | (with_reducible intro _) | refine go_seq ?_ | refine go_skip ?_ | refine go_lab ?_ | refine go_blk ?_ | refine go_b ?_)
        refine go_l ⟨⟨k + 1, u, zc, ⟨by omega, by rw [hnext]; exact hcs⟩, by (try simp -implicitDefEqProofs only [kR_e, kQ_e, push_cast, Nat.reduceBEq, Nat.reduceAdd, Nat.reduceSub, Nat.reduceMul, Nat.reduceLT, Nat.reduceLeDiff, Nat.reduceEqDiff, reduceIte, Bool.not_true, Bool.not_false, true_and, and_true, Option.map_some, Option.bind_some, Int.toNat_natCast]), by (try simp -implicitDefEqProofs only [kR_e, kQ_e, push_cast, Nat.reduceBEq, Nat.reduceAdd, Nat.reduceSub, Nat.reduceMul, Nat.reduceLT, Nat.reduceLeDiff, Nat.reduceEqDiff, reduceIte, Bool.not_true, Bool.not_false, true_and, and_true, Option.map_some, Option.bind_some, Int.toNat_natCast, e9]), by (try simp -implicitDefEqProofs only [kR_e, kQ_e, push_cast, Nat.reduceBEq, Nat.reduceAdd, Nat.reduceSub, Nat.reduceMul, Nat.reduceLT, Nat.reduceLeDiff, Nat.reduceEqDiff, reduceIte, Bool.not_true, Bool.not_false, true_and, and_true, Option.map_some, Option.bind_some, Int.toNat_natCast, e8]), by (try simp -implicitDefEqProofs only [kR_e, kQ_e, push_cast, Nat.reduceBEq, Nat.reduceAdd, Nat.reduceSub, Nat.reduceMul, Nat.reduceLT, Nat.reduceLeDiff, Nat.reduceEqDiff, reduceIte, Bool.not_true, Bool.not_false, true_and, and_true, Option.map_some, Option.bind_some, Int.toNat_natCast, e0]), by (try simp -implicitDefEqProofs only [kR_e, kQ_e, push_cast, Nat.reduceBEq, Nat.reduceAdd, Nat.reduceSub, Nat.reduceMul, Nat.reduceLT, Nat.reduceLeDiff, Nat.reduceEqDiff, reduceIte, Bool.not_true, Bool.not_false, true_and, and_true, Option.map_some, Option.bind_some, Int.toNat_natCast, e1]), by (try simp -implicitDefEqProofs only [kR_e, kQ_e, push_cast, Nat.reduceBEq, Nat.reduceAdd, Nat.reduceSub, Nat.reduceMul, Nat.reduceLT, Nat.reduceLeDiff, Nat.reduceEqDiff, reduceIte, Bool.not_true, Bool.not_false, true_and, and_true, Option.map_some, Option.bind_some, Int.toNat_natCast, e5]), rfl, rfl, by rw [hnext]; exact List.sublist_cons_self _ _⟩, ?_⟩
        (try simp -implicitDefEqProofs only [kR_e, kQ_e, push_cast, Nat.reduceBEq, Nat.reduceAdd, Nat.reduceSub, Nat.reduceMul, Nat.reduceLT, Nat.reduceLeDiff, Nat.reduceEqDiff, reduceIte, Bool.not_true, Bool.not_false, true_and, and_true, Option.map_some, Option.bind_some, Int.toNat_natCast])
        omega
      refine gd (fun h1 => ?_) (fun h1 => ?_)
      · (try simp -implicitDefEqProofs only [kR_e, kQ_e, push_cast, Nat.reduceBEq, Nat.reduceAdd, Nat.reduceSub, Nat.reduceMul, Nat.reduceLT, Nat.reduceLeDiff, Nat.reduceEqDiff, reduceIte, Bool.not_true, Bool.not_false, true_and, and_true, Option.map_some, Option.bind_some, Int.toNat_natCast])
        (repeat first | (with_reducible intro _) | refine go_seq ?_ | refine go_skip ?_ | refine go_lab ?_ | refine go_blk ?_ | refine go_b ?_); refine go_c ?_; (try simp -implicitDefEqProofs only [kR_e, kQ_e, push_cast, Nat.reduceBEq, Nat.reduceAdd, Nat.reduceSub, Nat.reduceMul, Nat.reduceLT, Nat.reduceLeDiff, Nat.reduceEqDiff, reduceIte, Bool.not_true, Bool.not_false, true_and, and_true, Option.map_some, Option.bind_some, Int.toNat_natCast])
        refine gb (fun h2 => ?_) (fun h2 => ?_)
        · (repeat first | (with_reducible intro _) | refine go_seq ?_ | refine go_skip ?_ | refine go_lab ?_ | refine go_blk ?_ | refine go_b ?_); refine go_r 23 27 (by decide) ?_; (try simp -implicitDefEqProofs only [kR_e, kQ_e, push_cast, Nat.reduceBEq, Nat.reduceAdd, Nat.reduceSub, Nat.reduceMul, Nat.reduceLT, Nat.reduceLeDiff, Nat.reduceEqDiff, reduceIte, Bool.not_true, Bool.not_false, true_and, and_true, Option.map_some, Option.bind_some, Int.toNat_natCast, c23r6])
          intro b hb'
          refine app1 (L1 := [_]) (L2 := []) (x := x) rfl hcs (by omega) i1 i2 fun A' c' zc' hc' => ?_
          (try simp -implicitDefEqProofs only [kR_e, kQ_e, push_cast, Nat.reduceBEq, Nat.reduceAdd, Nat.reduceSub, Nat.reduceMul, Nat.reduceLT, Nat.reduceLeDiff, Nat.reduceEqDiff, reduceIte, Bool.not_true, Bool.not_false, true_and, and_true, Option.map_some, Option.bind_some, Int.toNat_natCast])
          rw [if_pos (by rw [h1, h2]; rfl)] at hnext
          (repeat first | (with_reducible intro _) | refine go_seq ?_ | refine go_skip ?_ | refine go_lab ?_ | refine go_blk ?_ | refine go_b ?_); refine go_r 27 28 (by decide) ?_; (try simp -implicitDefEqProofs only [kR_e, kQ_e, push_cast, Nat.reduceBEq, Nat.reduceAdd, Nat.reduceSub, Nat.reduceMul, Nat.reduceLT, Nat.reduceLeDiff, Nat.reduceEqDiff, reduceIte, Bool.not_true, Bool.not_false, true_and, and_true, Option.map_some, Option.bind_some, Int.toNat_natCast, c23r7, hw3])
          (repeat first | (with_reducible intro _) | refine go_seq ?_ | refine go_skip ?_ | refine go_lab ?_ | refine go_blk ?_ | refine go_b ?_)
          refine go_l ⟨⟨k + 1, _, zc', ⟨by omega, by rw [hnext]; exact hc'⟩, by (try simp -implicitDefEqProofs only [kR_e, kQ_e, push_cast, Nat.reduceBEq, Nat.reduceAdd, Nat.reduceSub, Nat.reduceMul, Nat.reduceLT, Nat.reduceLeDiff, Nat.reduceEqDiff, reduceIte, Bool.not_true, Bool.not_false, true_and, and_true, Option.map_some, Option.bind_some, Int.toNat_natCast]), by (try simp -implicitDefEqProofs only [kR_e, kQ_e, push_cast, Nat.reduceBEq, Nat.reduceAdd, Nat.reduceSub, Nat.reduceMul, Nat.reduceLT, Nat.reduceLeDiff, Nat.reduceEqDiff, reduceIte, Bool.not_true, Bool.not_false, true_and, and_true, Option.map_some, Option.bind_some, Int.toNat_natCast]), by (try simp -implicitDefEqProofs only [kR_e, kQ_e, push_cast, Nat.reduceBEq, Nat.reduceAdd, Nat.reduceSub, Nat.reduceMul, Nat.reduceLT, Nat.reduceLeDiff, Nat.reduceEqDiff, reduceIte, Bool.not_true, Bool.not_false, true_and, and_true, Option.map_some, Option.bind_some, Int.toNat_natCast]), by (try simp -implicitDefEqProofs only [kR_e, kQ_e, push_cast, Nat.reduceBEq, Nat.reduceAdd, Nat.reduceSub, Nat.reduceMul, Nat.reduceLT, Nat.reduceLeDiff, Nat.reduceEqDiff, reduceIte, Bool.not_true, Bool.not_false, true_and, and_true, Option.map_some, Option.bind_some, Int.toNat_natCast]), by (try simp -implicitDefEqProofs only [kR_e, kQ_e, push_cast, Nat.reduceBEq, Nat.reduceAdd, Nat.reduceSub, Nat.reduceMul, Nat.reduceLT, Nat.reduceLeDiff, Nat.reduceEqDiff, reduceIte, Bool.not_true, Bool.not_false, true_and, and_true, Option.map_some, Option.bind_some, Int.toNat_natCast]), rfl, rfl, rfl, ?_⟩, ?_⟩
          · rw [hnext]
            exact .cons _ (.cons _ (List.Sublist.refl _))
          · (try simp -implicitDefEqProofs only [kR_e, kQ_e, push_cast, Nat.reduceBEq, Nat.reduceAdd, Nat.reduceSub, Nat.reduceMul, Nat.reduceLT, Nat.reduceLeDiff, Nat.reduceEqDiff, reduceIte, Bool.not_true, Bool.not_false, true_and, and_true, Option.map_some, Option.bind_some, Int.toNat_natCast])
            omega
        · (repeat first | (with_reducible intro _) | refine go_seq ?_ | refine go_skip ?_ | refine go_lab ?_ | refine go_blk ?_ | refine go_b ?_)
          exact hno _ u (by rw [h2]; simp) rfl rfl rfl rfl rfl rfl rfl
      · (try simp -implicitDefEqProofs only [kR_e, kQ_e, push_cast, Nat.reduceBEq, Nat.reduceAdd, Nat.reduceSub, Nat.reduceMul, Nat.reduceLT, Nat.reduceLeDiff, Nat.reduceEqDiff, reduceIte, Bool.not_true, Bool.not_false, true_and, and_true, Option.map_some, Option.bind_some, Int.toNat_natCast])
        (repeat first | (with_reducible intro _) | refine go_seq ?_ | refine go_skip ?_ | refine go_lab ?_ | refine go_blk ?_ | refine go_b ?_); refine go_c ?_; (try simp -implicitDefEqProofs only [kR_e, kQ_e, push_cast, Nat.reduceBEq, Nat.reduceAdd, Nat.reduceSub, Nat.reduceMul, Nat.reduceLT, Nat.reduceLeDiff, Nat.reduceEqDiff, reduceIte, Bool.not_true, Bool.not_false, true_and, and_true, Option.map_some, Option.bind_some, Int.toNat_natCast])
        (repeat first | (with_reducible intro _) | refine go_seq ?_ | refine go_skip ?_ | refine go_lab ?_ | refine go_blk ?_ | refine go_b ?_)
        exact hno _ u (by rw [h1]; rfl) rfl rfl rfl rfl rfl rfl rfl
    · have hkl : k = l.length := by simp at ht; omega
      subst hkl
      refine go_exit ?_
      (try simp -implicitDefEqProofs only [kR_e, kQ_e, push_cast, Nat.reduceBEq, Nat.reduceAdd, Nat.reduceSub, Nat.reduceMul, Nat.reduceLT, Nat.reduceLeDiff, Nat.reduceEqDiff, reduceIte, Bool.not_true, Bool.not_false, true_and, and_true, Option.map_some, Option.bind_some, Int.toNat_natCast])
      (repeat first | (with_reducible intro _) | refine go_seq ?_ | refine go_skip ?_ | refine go_lab ?_ | refine go_blk ?_ | refine go_b ?_); refine go_r 28 29 (by decide) ?_; (try simp -implicitDefEqProofs only [kR_e, kQ_e, push_cast, Nat.reduceBEq, Nat.reduceAdd, Nat.reduceSub, Nat.reduceMul, Nat.reduceLT, Nat.reduceLeDiff, Nat.reduceEqDiff, reduceIte, Bool.not_true, Bool.not_false, true_and, and_true, Option.map_some, Option.bind_some, Int.toNat_natCast, c23r8])
      (repeat first | (with_reducible intro _) | refine go_seq ?_ | refine go_skip ?_ | refine go_lab ?_ | refine go_blk ?_ | refine go_b ?_)
      rw [List.take_length] at hzs
      refine go_ret (retQ_o _ rfl (List.Sublist.refl _) (noRegs_row noRegs_nil) ?_)
      refine ⟨zc, ?_, ?_⟩
      · rw [cutM, hzs]; exact hcs
      · rw [cutM, hzs]; rfl
end Go.Proofs.Ytgclikgkfchmlaa

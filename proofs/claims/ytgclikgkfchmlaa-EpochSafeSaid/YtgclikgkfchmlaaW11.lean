/- What functions of the epoch chapter compute: part 11 of a proof. No condition. -/
import Derived.Test.YtgclikgkfchmlaaW10
set_option linter.unusedSimpArgs false
set_option linter.unusedVariables false
namespace Go.Proofs.Ytgclikgkfchmlaa
open Go Go.Kx
theorem c37_ok (l : List Epo) (A : Option Addr) (c : Nat) (n : Int) (G : Nat → Option Obj) (b1 b2 : Nat) (hA : SlA G EE 2 A l) (h1 : cellG G ⟨b1, 0, none⟩ = some (.slice A l.length c)) (h2 : cellG G ⟨b2, 0, none⟩ = some (.int .i64 n)) (i : Nat) (x : Epo) (hx : l[i]? = some x) :
    FnS Try.prog 37 #[.int .i64 i, .pointer (some ⟨b1, 0, none⟩), .pointer (some ⟨b2, 0, none⟩)] G (.bool (decide (n ≤ x.2))) := by
  refine F37.fnS (by simp) (go_of ?_)
  unfold c37
  (repeat first | (with_reducible intro _) | refine go_seq ?_ | refine go_skip ?_ | refine go_lab ?_ | refine go_blk ?_ | refine go_b ?_); refine go_r 0 0 (by decide) ?_; (try simp -implicitDefEqProofs only [kR_e, kQ_e, push_cast, Nat.reduceBEq, Nat.reduceAdd, Nat.reduceSub, Nat.reduceMul, Nat.reduceLT, Nat.reduceLeDiff, Nat.reduceEqDiff, reduceIte, Bool.not_true, Bool.not_false, true_and, and_true, Option.map_some, Option.bind_some, Int.toNat_natCast, c37r0])
  (repeat first | (with_reducible intro _) | refine go_seq ?_ | refine go_skip ?_ | refine go_lab ?_ | refine go_blk ?_ | refine go_b ?_); refine go_q 5 12 (by decide) ?_; (try simp -implicitDefEqProofs only [kR_e, kQ_e, push_cast, Nat.reduceBEq, Nat.reduceAdd, Nat.reduceSub, Nat.reduceMul, Nat.reduceLT, Nat.reduceLeDiff, Nat.reduceEqDiff, reduceIte, Bool.not_true, Bool.not_false, true_and, and_true, Option.map_some, Option.bind_some, Int.toNat_natCast, c37r1])
  refine ⟨_, ⟨_, rfl, .g h1⟩, ?_⟩
  (try simp -implicitDefEqProofs only [kR_e, kQ_e, push_cast, Nat.reduceBEq, Nat.reduceAdd, Nat.reduceSub, Nat.reduceMul, Nat.reduceLT, Nat.reduceLeDiff, Nat.reduceEqDiff, reduceIte, Bool.not_true, Bool.not_false, true_and, and_true, Option.map_some, Option.bind_some, Int.toNat_natCast])
  refine hA.y_lf hx rfl rfl (fun cs h => by rw [h.1]; rfl) fun a ha => ?_
  (try simp -implicitDefEqProofs only [kR_e, kQ_e, push_cast, Nat.reduceBEq, Nat.reduceAdd, Nat.reduceSub, Nat.reduceMul, Nat.reduceLT, Nat.reduceLeDiff, Nat.reduceEqDiff, reduceIte, Bool.not_true, Bool.not_false, true_and, and_true, Option.map_some, Option.bind_some, Int.toNat_natCast])
  refine ⟨_, ⟨_, rfl, .g h2⟩, ?_⟩
  (try simp -implicitDefEqProofs only [kR_e, kQ_e, push_cast, Nat.reduceBEq, Nat.reduceAdd, Nat.reduceSub, Nat.reduceMul, Nat.reduceLT, Nat.reduceLeDiff, Nat.reduceEqDiff, reduceIte, Bool.not_true, Bool.not_false, true_and, and_true, Option.map_some, Option.bind_some, Int.toNat_natCast])
  (repeat first | (with_reducible intro _) | refine go_seq ?_ | refine go_skip ?_ | refine go_lab ?_ | refine go_blk ?_ | refine go_b ?_)
  refine go_ret (retQ_v rfl ?_); simp only [push_cast, Nat.reduceBEq]
theorem cutM_take {l : List Epo} (h : chkN l = 0) {off : Int} {j : Nat} (hj : j ≤ l.length) (h1 : ∀ x, l[j]? = some x → off ≤ x.2) (h2 : ∀ x, 0 < j → l[j - 1]? = some x → x.2 < off) : cutM l off = l.take j := by
  have e : l = l.take j ++ l.drop j := (List.take_append_drop j l).symm
  have h3 : (l.take j).filter (fun x => decide (chkN l = 0) && decide (x.2 < off)) = l.take j := by
    rw [List.filter_eq_self]
    intro x hx
    obtain ⟨i, hi⟩ := List.getElem?_of_mem hx
    rw [List.getElem?_take] at hi
    split at hi
    · rename_i hij
      obtain ⟨y, hy⟩ : ∃ y, l[j - 1]? = some y := ⟨l[j - 1], List.getElem?_eq_getElem (by omega)⟩
      have h4 := h2 y (by omega) hy
      have : x.2 < off := by
        by_cases hij' : i = j - 1
        · subst hij'; rw [hi] at hy; cases hy; exact h4
        · have := (chk_mono h (show i < j - 1 by omega) hi hy).2
          omega
      simp [h, this]
    · cases hi
  have h4 : (l.drop j).filter (fun x => decide (chkN l = 0) && decide (x.2 < off)) = [] := by
    rw [List.filter_eq_nil_iff]
    intro x hx
    obtain ⟨i, hi⟩ := List.getElem?_of_mem hx
    rw [List.getElem?_drop] at hi
    obtain ⟨y, hy⟩ : ∃ y, l[j]? = some y := ⟨l[j]'(by have := (List.getElem?_eq_some_iff.1 hi).1; omega), List.getElem?_eq_getElem _⟩
    have h4 := h1 y hy
    have : off ≤ x.2 := by
      by_cases hij' : i = 0
      · subst hij'; rw [Nat.add_zero] at hi; rw [hi] at hy; cases hy; exact h4
      · have := (chk_mono h (show j < j + i by omega) hy hi).2
        omega
    simp
    intro _
    omega
  unfold cutM
  have h5 := List.filter_append (p := fun x => decide (chkN l = 0) && decide (x.2 < off)) (l.take j) (l.drop j)
  rw [← e, h3, h4, List.append_nil] at h5
  exact h5
theorem Cut_ok (l : List Epo) (off : Int) (v : Value) (G : Nat → Option Obj) (hl : SEpo G v l) (hb : l.length ≤ 1000000) :
    FnO Try.prog 21 #[v, .int .i64 off] G [] (fun _ L' r => OwnR (cutM l off) L' r) := by
  refine F21.fnO (by simp) noRegs_nil (go_of ?_)
  obtain ⟨A, c, rfl, hc, hm, hA⟩ := hl
  unfold c21
  (repeat first | (with_reducible intro _) | refine go_seq ?_ | refine go_skip ?_ | refine go_lab ?_ | refine go_blk ?_ | refine go_b ?_); refine go_r 0 0 (by decide) ?_; (try simp -implicitDefEqProofs only [kR_e, kQ_e, push_cast, Nat.reduceBEq, Nat.reduceAdd, Nat.reduceSub, Nat.reduceMul, Nat.reduceLT, Nat.reduceLeDiff, Nat.reduceEqDiff, reduceIte, Bool.not_true, Bool.not_false, true_and, and_true, Option.map_some, Option.bind_some, Int.toNat_natCast, c21r0])
  intro b1 hb1 b2 hb2
  (repeat first | (with_reducible intro _) | refine go_seq ?_ | refine go_skip ?_ | refine go_lab ?_ | refine go_blk ?_ | refine go_b ?_)
  refine go_gx gx_blk ?_
  rintro h' ⟨G1, rfl, hg1, hc1⟩
  refine go_gx gx_blk ?_
  rintro h' ⟨G2, rfl, hg2, hc2⟩
  have e1 := hc2 0 _ rfl
  have e2 := cellG_le hg2 (hc1 0 _ rfl)
  rw [add_off] at e1 e2
  have hA2 : SlA G2 EE 2 A l := (hA.le hg1 fun _ _ h => h).le hg2 fun _ _ h => h
  have hl2 : SEpo G2 (.slice A l.length c) l := ⟨A, c, rfl, hc, hm, hA2⟩
  (repeat first | (with_reducible intro _) | refine go_seq ?_ | refine go_skip ?_ | refine go_lab ?_ | refine go_blk ?_ | refine go_b ?_); refine go_r 6 8 (by decide) ?_; (try simp -implicitDefEqProofs only [kR_e, kQ_e, push_cast, Nat.reduceBEq, Nat.reduceAdd, Nat.reduceSub, Nat.reduceMul, Nat.reduceLT, Nat.reduceLeDiff, Nat.reduceEqDiff, reduceIte, Bool.not_true, Bool.not_false, true_and, and_true, Option.map_some, Option.bind_some, Int.toNat_natCast, c21r1])
  refine ⟨_, ⟨_, rfl, .g e1⟩, ?_⟩
  (try simp -implicitDefEqProofs only [kR_e, kQ_e, push_cast, Nat.reduceBEq, Nat.reduceAdd, Nat.reduceSub, Nat.reduceMul, Nat.reduceLT, Nat.reduceLeDiff, Nat.reduceEqDiff, reduceIte, Bool.not_true, Bool.not_false, true_and, and_true, Option.map_some, Option.bind_some, Int.toNat_natCast])
  refine (Check_ok _ _ _ hl2 _ _).mono ?_
  rintro v h' ⟨rfl, rfl⟩
  (try simp -implicitDefEqProofs only [kR_e, kQ_e, push_cast, Nat.reduceBEq, Nat.reduceAdd, Nat.reduceSub, Nat.reduceMul, Nat.reduceLT, Nat.reduceLeDiff, Nat.reduceEqDiff, reduceIte, Bool.not_true, Bool.not_false, true_and, and_true, Option.map_some, Option.bind_some, Int.toNat_natCast])
  (repeat first | (with_reducible intro _) | refine go_seq ?_ | refine go_skip ?_ | refine go_lab ?_ | refine go_blk ?_ | refine go_b ?_); refine go_c ?_; (try simp -implicitDefEqProofs only [kR_e, kQ_e, push_cast, Nat.reduceBEq, Nat.reduceAdd, Nat.reduceSub, Nat.reduceMul, Nat.reduceLT, Nat.reduceLeDiff, Nat.reduceEqDiff, reduceIte, Bool.not_true, Bool.not_false, true_and, and_true, Option.map_some, Option.bind_some, Int.toNat_natCast])
  refine gb (fun h1 => ?_) (fun h1 => ?_)
  · (repeat first | (with_reducible intro _) | refine go_seq ?_ | refine go_skip ?_ | refine go_lab ?_ | refine go_blk ?_ | refine go_b ?_); refine go_r 0 0 (by decide) ?_; (try simp -implicitDefEqProofs only [kR_e, kQ_e, push_cast, Nat.reduceBEq, Nat.reduceAdd, Nat.reduceSub, Nat.reduceMul, Nat.reduceLT, Nat.reduceLeDiff, Nat.reduceEqDiff, reduceIte, Bool.not_true, Bool.not_false, true_and, and_true, Option.map_some, Option.bind_some, Int.toNat_natCast, c21r2])
    (repeat first | (with_reducible intro _) | refine go_seq ?_ | refine go_skip ?_ | refine go_lab ?_ | refine go_blk ?_ | refine go_b ?_)
    refine go_ghost (ghost_nil none 32 2) ?_
    refine go_ret (retQ_o _ rfl (List.Sublist.refl _) (noRegs_row noRegs_nil) ?_)
    have : cutM l off = [] := by
      unfold cutM
      rw [List.filter_eq_nil_iff]
      intro x _
      simp at h1
      simp [h1]
    exact ⟨[], by rw [this]; exact .nil, by rw [this]; rfl⟩
  have h1 : chkN l = 0 := by simpa using h1
  (repeat first | (with_reducible intro _) | refine go_seq ?_ | refine go_skip ?_ | refine go_lab ?_ | refine go_blk ?_ | refine go_b ?_); refine go_r 9 13 (by decide) ?_; (try simp -implicitDefEqProofs only [kR_e, kQ_e, push_cast, Nat.reduceBEq, Nat.reduceAdd, Nat.reduceSub, Nat.reduceMul, Nat.reduceLT, Nat.reduceLeDiff, Nat.reduceEqDiff, reduceIte, Bool.not_true, Bool.not_false, true_and, and_true, Option.map_some, Option.bind_some, Int.toNat_natCast, c21r3])
  refine ⟨_, ⟨_, rfl, .g e1⟩, ?_⟩
  (try simp -implicitDefEqProofs only [kR_e, kQ_e, push_cast, Nat.reduceBEq, Nat.reduceAdd, Nat.reduceSub, Nat.reduceMul, Nat.reduceLT, Nat.reduceLeDiff, Nat.reduceEqDiff, reduceIte, Bool.not_true, Bool.not_false, true_and, and_true, Option.map_some, Option.bind_some, Int.toNat_natCast])
  refine (Search_ok l.length (by omega) (fun i => decide (∃ x, l[i]? = some x ∧ off ≤ x.2)) 37 #[.pointer (some ⟨b1, 0, none⟩), .pointer (some ⟨b2, 0, none⟩)] G2 (fun i hi => ?_) [] []).mono ?_
  · obtain ⟨x, hx⟩ : ∃ x, l[i]? = some x := ⟨l[i], List.getElem?_eq_getElem (by omega)⟩
    have := c37_ok l A c off G2 b1 b2 hA2 e1 e2 i x hx
    have he : decide (∃ x, l[i]? = some x ∧ off ≤ x.2) = decide (off ≤ x.2) := by simp [hx]
    rw [he]
    exact this
  rintro r h' ⟨⟨j, hj, rfl, h2, h3⟩, rfl⟩
  have hcut : cutM l off = l.take j := cutM_take h1 hj (fun x hx => by
    have := h2 (List.getElem?_eq_some_iff.1 hx).1
    simpa [hx] using this) (fun x h0 hx => by
    have := h3 h0
    simpa [hx] using this)
  (try simp -implicitDefEqProofs only [kR_e, kQ_e, push_cast, Nat.reduceBEq, Nat.reduceAdd, Nat.reduceSub, Nat.reduceMul, Nat.reduceLT, Nat.reduceLeDiff, Nat.reduceEqDiff, reduceIte, Bool.not_true, Bool.not_false, true_and, and_true, Option.map_some, Option.bind_some, Int.toNat_natCast])
  (repeat first | (with_reducible intro _) | refine go_seq ?_ | refine go_skip ?_ | refine go_lab ?_ | refine go_blk ?_ | refine go_b ?_); refine go_r 13 17 (by decide) ?_; (try simp -implicitDefEqProofs only [kR_e, kQ_e, push_cast, Nat.reduceBEq, Nat.reduceAdd, Nat.reduceSub, Nat.reduceMul, Nat.reduceLT, Nat.reduceLeDiff, Nat.reduceEqDiff, reduceIte, Bool.not_true, Bool.not_false, true_and, and_true, Option.map_some, Option.bind_some, Int.toNat_natCast, c21r4])
  refine ⟨_, ⟨_, rfl, .g e1⟩, ?_⟩
  (try simp -implicitDefEqProofs only [kR_e, kQ_e, push_cast, Nat.reduceBEq, Nat.reduceAdd, Nat.reduceSub, Nat.reduceMul, Nat.reduceLT, Nat.reduceLeDiff, Nat.reduceEqDiff, reduceIte, Bool.not_true, Bool.not_false, true_and, and_true, Option.map_some, Option.bind_some, Int.toNat_natCast])
  refine ⟨by omega, ?_⟩
  have hlt : (l.take j).length = j := by simp; omega
  have htk : SEpo G2 (.slice A j c) (l.take j) := ⟨A, c, by rw [hlt], by omega, hm, by
    have := hA2.cut (l := 0) (n := j) (B := A) hj (fun _ => by cases A <;> simp [Addr.add])
    simpa using this⟩
  refine (Clone_ok _ _ _ htk (by omega) [] []).mono ?_
  rintro r h' ⟨G', L', rfl, hg, ys, hys, rfl⟩
  (try simp -implicitDefEqProofs only [kR_e, kQ_e, push_cast, Nat.reduceBEq, Nat.reduceAdd, Nat.reduceSub, Nat.reduceMul, Nat.reduceLT, Nat.reduceLeDiff, Nat.reduceEqDiff, reduceIte, Bool.not_true, Bool.not_false, true_and, and_true, Option.map_some, Option.bind_some, Int.toNat_natCast])
  (repeat first | (with_reducible intro _) | refine go_seq ?_ | refine go_skip ?_ | refine go_lab ?_ | refine go_blk ?_ | refine go_b ?_)
  refine go_ret (retQ_o _ rfl (List.Sublist.refl _) (noRegs_row noRegs_nil) ?_)
  exact ⟨ys, by rw [hcut]; exact hys, by rw [hcut]; rfl⟩
end Go.Proofs.Ytgclikgkfchmlaa

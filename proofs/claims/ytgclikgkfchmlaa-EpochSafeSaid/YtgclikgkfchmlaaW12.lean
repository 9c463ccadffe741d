/- What functions of the epoch chapter compute: part 12 of a proof. No condition. -/
import Derived.Test.YtgclikgkfchmlaaW11
set_option linter.unusedSimpArgs false
set_option linter.unusedVariables false
namespace Go.Proofs.Ytgclikgkfchmlaa
open Go Go.Kx
theorem F22 : Fun Try.prog 22 39 v22 c22 o22 := Fun.mk' Try.func22 Try.ntmps22 (by kernel_rfl) (by kernel_rfl) s22 q22
theorem F24 : Fun Try.prog 24 53 v24 c24 o24 := Fun.mk' Try.func24 Try.ntmps24 (by kernel_rfl) (by kernel_rfl) s24 q24
theorem F38 : Fun Try.prog 38 13 v38 c38 o38 := Fun.mk' Try.func38 Try.ntmps38 (by kernel_rfl) (by kernel_rfl) s38 q38

def tf (l : List Epo) (st : Int) (i : Nat) : Option Epo :=
  match l[i]?, l[i + 1]? with
  | some x, none => some (x.1, max x.2 st)
  | some x, some y => if st < y.2 then some (x.1, max x.2 st) else none
  | none, _ => none
def inO (n : Int) : Bool := decide (0 ≤ n) && decide (n ≤ 1099511627776)
noncomputable def trimM (l : List Epo) (st : Int) : List Epo := if chkN l = 0 ∧ inO st = true then (List.range l.length).filterMap (tf l st) else []
theorem fm_some {α β : Type} {f : α → Option β} {g : α → β} : ∀ {l : List α}, (∀ x ∈ l, f x = some (g x)) → l.filterMap f = l.map g
  | [], _ => rfl
  | x :: l, h => by
    rw [List.filterMap_cons, h x (.head _)]
    simp only [List.map_cons, List.cons.injEq, true_and]
    exact fm_some fun y hy => h y (.tail _ hy)
theorem trimM_drop {l : List Epo} {st : Int} {j : Nat} {x : Epo} (h : chkN l = 0) (hs : inO st = true) (hx : l[j]? = some x) (h1 : ∀ y, l[j + 1]? = some y → st < y.2) (h2 : 0 < j → x.2 ≤ st) :
    trimM l st = (l.drop j).set 0 (x.1, max x.2 st) := by
  have hjl := (List.getElem?_eq_some_iff.1 hx).1
  rw [trimM, if_pos ⟨h, hs⟩]
  obtain ⟨m, hm⟩ : ∃ m, l.length = j + m := ⟨l.length - j, by omega⟩
  rw [hm, List.range_add, List.filterMap_append]
  have e1 : (List.range j).filterMap (tf l st) = [] := by
    rw [List.filterMap_eq_nil_iff]
    intro i hi
    have hij := List.mem_range.1 hi
    obtain ⟨y, hy⟩ : ∃ y, l[i]? = some y := ⟨l[i], List.getElem?_eq_getElem (by omega)⟩
    obtain ⟨z, hz⟩ : ∃ z, l[i + 1]? = some z := ⟨l[i + 1], List.getElem?_eq_getElem (by omega)⟩
    have h3 := h2 (by omega)
    have h4 : z.2 ≤ st := by
      by_cases hj : i + 1 = j
      · subst hj; rw [hx] at hz; cases hz; exact h3
      · have := (chk_mono h (show i + 1 < j by omega) hz hx).2
        omega
    simp only [tf, hy, hz]
    rw [if_neg (by omega)]
  have e2 : ((List.range m).map fun t => j + t).filterMap (tf l st) = (List.range m).map fun t => ((l[j + t]?).map fun y => (y.1, max y.2 st)).getD (0, 0) := by
    rw [List.filterMap_map]
    refine fm_some fun t ht => ?_
    have htm := List.mem_range.1 ht
    obtain ⟨y, hy⟩ : ∃ y, l[j + t]? = some y := ⟨l[j + t], List.getElem?_eq_getElem (by omega)⟩
    simp only [Function.comp, tf, hy, Option.map_some, Option.getD_some]
    cases hz : l[j + t + 1]? with
    | none => rfl
    | some z =>
      have : st < z.2 := by
        by_cases ht0 : t = 0
        · subst ht0; exact h1 z hz
        · obtain ⟨z1, hz1⟩ : ∃ z1, l[j + 1]? = some z1 := ⟨l[j + 1], List.getElem?_eq_getElem (by omega)⟩
          have h3 := h1 z1 hz1
          have := (chk_mono h (show j + 1 < j + t + 1 by omega) hz1 hz).2
          omega
      simp only [if_pos this]
  rw [e1, e2, List.nil_append]
  apply List.ext_getElem?
  intro t
  rw [List.getElem?_map, List.getElem?_set, List.getElem?_drop]
  by_cases htm : t < m
  · rw [List.getElem?_range htm]
    obtain ⟨y, hy⟩ : ∃ y, l[j + t]? = some y := ⟨l[j + t], List.getElem?_eq_getElem (by omega)⟩
    simp only [Option.map_some, hy, Option.getD_some]
    by_cases ht0 : t = 0
    · subst ht0
      rw [Nat.add_zero, hx] at hy
      cases hy
      simp only [if_true, List.length_drop]
      rw [if_pos (by omega)]
    · rw [if_neg (by omega)]
      obtain ⟨z1, hz1⟩ : ∃ z1, l[j + 1]? = some z1 := ⟨l[j + 1], List.getElem?_eq_getElem (by omega)⟩
      have h3 := h1 z1 hz1
      have h4 : st < y.2 := by
        by_cases ht1 : t = 1
        · subst ht1; rw [hy] at hz1; cases hz1; exact h3
        · have := (chk_mono h (show j + 1 < j + t by omega) hz1 hy).2
          omega
      rw [show max y.2 st = y.2 by omega]
  · rw [List.getElem?_eq_none (by simp; omega), if_neg (by omega), List.getElem?_eq_none (by omega)]
    rfl

theorem c38_ok (l : List Epo) (A : Option Addr) (c : Nat) (n : Int) (G : Nat → Option Obj) (b1 b2 : Nat) (hc : l.length ≤ c) (hm : c ≤ maxLen) (hA : SlA G EE 2 A l) (h1 : cellG G ⟨b1, 0, none⟩ = some (.slice A l.length c)) (h2 : cellG G ⟨b2, 0, none⟩ = some (.int .i64 n)) (i : Nat) (x : Epo) (hx : l[i + 1]? = some x) :
    FnS Try.prog 38 #[.int .i64 i, .pointer (some ⟨b1, 0, none⟩), .pointer (some ⟨b2, 0, none⟩)] G (.bool (decide (n < x.2))) := by
  refine F38.fnS (by simp) (go_of ?_)
  have hw := inc_i i c (by have := (List.getElem?_eq_some_iff.1 hx).1; omega) hm
  unfold c38
  (repeat first | (with_reducible intro _) | refine go_seq ?_ | refine go_skip ?_ | refine go_lab ?_ | refine go_blk ?_ | refine go_b ?_); refine go_r 0 0 (by decide) ?_; (try simp -implicitDefEqProofs only [kR_e, kQ_e, push_cast, Nat.reduceBEq, Nat.reduceAdd, Nat.reduceSub, Nat.reduceMul, Nat.reduceLT, Nat.reduceLeDiff, Nat.reduceEqDiff, reduceIte, Bool.not_true, Bool.not_false, true_and, and_true, Option.map_some, Option.bind_some, Int.toNat_natCast, c38r0])
  (repeat first | (with_reducible intro _) | refine go_seq ?_ | refine go_skip ?_ | refine go_lab ?_ | refine go_blk ?_ | refine go_b ?_); refine go_q 5 13 (by decide) ?_; (try simp -implicitDefEqProofs only [kR_e, kQ_e, push_cast, Nat.reduceBEq, Nat.reduceAdd, Nat.reduceSub, Nat.reduceMul, Nat.reduceLT, Nat.reduceLeDiff, Nat.reduceEqDiff, reduceIte, Bool.not_true, Bool.not_false, true_and, and_true, Option.map_some, Option.bind_some, Int.toNat_natCast, c38r1])
  refine ⟨_, ⟨_, rfl, .g h1⟩, ?_⟩
  (try simp -implicitDefEqProofs only [kR_e, kQ_e, push_cast, Nat.reduceBEq, Nat.reduceAdd, Nat.reduceSub, Nat.reduceMul, Nat.reduceLT, Nat.reduceLeDiff, Nat.reduceEqDiff, reduceIte, Bool.not_true, Bool.not_false, true_and, and_true, Option.map_some, Option.bind_some, Int.toNat_natCast, hw])
  refine hA.y_lf hx (by simp) rfl (fun cs h => by rw [h.1]; rfl) fun a ha => ?_
  (try simp -implicitDefEqProofs only [kR_e, kQ_e, push_cast, Nat.reduceBEq, Nat.reduceAdd, Nat.reduceSub, Nat.reduceMul, Nat.reduceLT, Nat.reduceLeDiff, Nat.reduceEqDiff, reduceIte, Bool.not_true, Bool.not_false, true_and, and_true, Option.map_some, Option.bind_some, Int.toNat_natCast])
  refine ⟨_, ⟨_, rfl, .g h2⟩, ?_⟩
  (try simp -implicitDefEqProofs only [kR_e, kQ_e, push_cast, Nat.reduceBEq, Nat.reduceAdd, Nat.reduceSub, Nat.reduceMul, Nat.reduceLT, Nat.reduceLeDiff, Nat.reduceEqDiff, reduceIte, Bool.not_true, Bool.not_false, true_and, and_true, Option.map_some, Option.bind_some, Int.toNat_natCast])
  (repeat first | (with_reducible intro _) | refine go_seq ?_ | refine go_skip ?_ | refine go_lab ?_ | refine go_blk ?_ | refine go_b ?_)
  refine go_ret (retQ_v rfl ?_); simp only [push_cast, Nat.reduceBEq]

theorem Trim_ok (l : List Epo) (st : Int) (v : Value) (G : Nat → Option Obj) (hl : SEpo G v l) (hb : l.length ≤ 1000000) :
    FnO Try.prog 22 #[v, .int .i64 st] G [] (fun _ L' r => OwnR (trimM l st) L' r) := by
  refine F22.fnO (by simp) noRegs_nil (go_of ?_)
  obtain ⟨A, c, rfl, hc, hm, hA⟩ := hl
  unfold c22
  (repeat first | (with_reducible intro _) | refine go_seq ?_ | refine go_skip ?_ | refine go_lab ?_ | refine go_blk ?_ | refine go_b ?_); refine go_r 0 0 (by decide) ?_; (try simp -implicitDefEqProofs only [kR_e, kQ_e, push_cast, Nat.reduceBEq, Nat.reduceAdd, Nat.reduceSub, Nat.reduceMul, Nat.reduceLT, Nat.reduceLeDiff, Nat.reduceEqDiff, reduceIte, Bool.not_true, Bool.not_false, true_and, and_true, Option.map_some, Option.bind_some, Int.toNat_natCast, c22r0])
  intro b1 hb1 b2 hb2
  (repeat first | (with_reducible intro _) | refine go_seq ?_ | refine go_skip ?_ | refine go_lab ?_ | refine go_blk ?_ | refine go_b ?_)
  refine go_gx gx_blk ?_
  rintro h' ⟨G1, rfl, hg1, hc1⟩
  refine go_gx gx_blk ?_
  rintro h' ⟨G2, rfl, hg2, hc2⟩
  have e1 := hc2 0 _ rfl
  have e2 := cellG_le hg2 (hc1 0 _ rfl)
  rw [add_off] at e1 e2
  have hA2 : SlA G2 EE 2 A l := (hA.le hg1 fun _ _ h => h).le hg2 fun _ _ h => h
  have hl2 : SEpo G2 (.slice A l.length c) l := ⟨A, c, rfl, hc, hm, hA2⟩
  have hnil : ∀ (fr : List Td) (e : Env), trimM l st = [] → go none Try.prog 39 v22.1 v22.2 (retQ o22 fun v h => OwnR (trimM l st) h.L v) (Td.s (SC.seq (.reg false c22r2) .ret) :: fr) e ⟨G2, [], []⟩ := fun fr e ht => by
    (repeat first | (with_reducible intro _) | refine go_seq ?_ | refine go_skip ?_ | refine go_lab ?_ | refine go_blk ?_ | refine go_b ?_); refine go_r 0 0 (by decide) ?_; (try simp -implicitDefEqProofs only [kR_e, kQ_e, push_cast, Nat.reduceBEq, Nat.reduceAdd, Nat.reduceSub, Nat.reduceMul, Nat.reduceLT, Nat.reduceLeDiff, Nat.reduceEqDiff, reduceIte, Bool.not_true, Bool.not_false, true_and, and_true, Option.map_some, Option.bind_some, Int.toNat_natCast, c22r2])
    (repeat first | (with_reducible intro _) | refine go_seq ?_ | refine go_skip ?_ | refine go_lab ?_ | refine go_blk ?_ | refine go_b ?_)
    refine go_ghost (ghost_nil none 32 2) ?_
    refine go_ret (retQ_o _ rfl (List.Sublist.refl _) (noRegs_row noRegs_nil) ?_)
    exact ⟨[], by rw [ht]; exact .nil, by rw [ht]; rfl⟩
  (repeat first | (with_reducible intro _) | refine go_seq ?_ | refine go_skip ?_ | refine go_lab ?_ | refine go_blk ?_ | refine go_b ?_); refine go_r 7 19 (by decide) ?_; (try simp -implicitDefEqProofs only [kR_e, kQ_e, push_cast, Nat.reduceBEq, Nat.reduceAdd, Nat.reduceSub, Nat.reduceMul, Nat.reduceLT, Nat.reduceLeDiff, Nat.reduceEqDiff, reduceIte, Bool.not_true, Bool.not_false, true_and, and_true, Option.map_some, Option.bind_some, Int.toNat_natCast, c22r1])
  refine ⟨_, ⟨_, rfl, .g e1⟩, ?_⟩
  (try simp -implicitDefEqProofs only [kR_e, kQ_e, push_cast, Nat.reduceBEq, Nat.reduceAdd, Nat.reduceSub, Nat.reduceMul, Nat.reduceLT, Nat.reduceLeDiff, Nat.reduceEqDiff, reduceIte, Bool.not_true, Bool.not_false, true_and, and_true, Option.map_some, Option.bind_some, Int.toNat_natCast])
  refine (Check_ok _ _ _ hl2 _ _).mono ?_
  rintro v h' ⟨rfl, rfl⟩
  (try simp -implicitDefEqProofs only [kR_e, kQ_e, push_cast, Nat.reduceBEq, Nat.reduceAdd, Nat.reduceSub, Nat.reduceMul, Nat.reduceLT, Nat.reduceLeDiff, Nat.reduceEqDiff, reduceIte, Bool.not_true, Bool.not_false, true_and, and_true, Option.map_some, Option.bind_some, Int.toNat_natCast])
  refine gd (fun h1 => ?_) (fun h1 => ?_)
  · (try simp -implicitDefEqProofs only [kR_e, kQ_e, push_cast, Nat.reduceBEq, Nat.reduceAdd, Nat.reduceSub, Nat.reduceMul, Nat.reduceLT, Nat.reduceLeDiff, Nat.reduceEqDiff, reduceIte, Bool.not_true, Bool.not_false, true_and, and_true, Option.map_some, Option.bind_some, Int.toNat_natCast])
    (repeat first | (with_reducible intro _) | refine go_seq ?_ | refine go_skip ?_ | refine go_lab ?_ | refine go_blk ?_ | refine go_b ?_); refine go_c ?_; (try simp -implicitDefEqProofs only [kR_e, kQ_e, push_cast, Nat.reduceBEq, Nat.reduceAdd, Nat.reduceSub, Nat.reduceMul, Nat.reduceLT, Nat.reduceLeDiff, Nat.reduceEqDiff, reduceIte, Bool.not_true, Bool.not_false, true_and, and_true, Option.map_some, Option.bind_some, Int.toNat_natCast])
    refine hnil _ _ ?_
    rw [trimM, if_neg]
    rintro ⟨h9, _⟩
    simp [h9] at h1
  (try simp -implicitDefEqProofs only [kR_e, kQ_e, push_cast, Nat.reduceBEq, Nat.reduceAdd, Nat.reduceSub, Nat.reduceMul, Nat.reduceLT, Nat.reduceLeDiff, Nat.reduceEqDiff, reduceIte, Bool.not_true, Bool.not_false, true_and, and_true, Option.map_some, Option.bind_some, Int.toNat_natCast])
  have h1 : chkN l = 0 := by simpa using h1
  refine ⟨_, ⟨_, rfl, .g e2⟩, ?_⟩
  (try simp -implicitDefEqProofs only [kR_e, kQ_e, push_cast, Nat.reduceBEq, Nat.reduceAdd, Nat.reduceSub, Nat.reduceMul, Nat.reduceLT, Nat.reduceLeDiff, Nat.reduceEqDiff, reduceIte, Bool.not_true, Bool.not_false, true_and, and_true, Option.map_some, Option.bind_some, Int.toNat_natCast])
  refine (within_ok .. |>.mono ?_)
  rintro v h' ⟨rfl, rfl⟩
  (try simp -implicitDefEqProofs only [kR_e, kQ_e, push_cast, Nat.reduceBEq, Nat.reduceAdd, Nat.reduceSub, Nat.reduceMul, Nat.reduceLT, Nat.reduceLeDiff, Nat.reduceEqDiff, reduceIte, Bool.not_true, Bool.not_false, true_and, and_true, Option.map_some, Option.bind_some, Int.toNat_natCast])
  refine gd (fun h2 => ?_) (fun h2 => ?_)
  · (try simp -implicitDefEqProofs only [kR_e, kQ_e, push_cast, Nat.reduceBEq, Nat.reduceAdd, Nat.reduceSub, Nat.reduceMul, Nat.reduceLT, Nat.reduceLeDiff, Nat.reduceEqDiff, reduceIte, Bool.not_true, Bool.not_false, true_and, and_true, Option.map_some, Option.bind_some, Int.toNat_natCast])
    (repeat first | (with_reducible intro _) | refine go_seq ?_ | refine go_skip ?_ | refine go_lab ?_ | refine go_blk ?_ | refine go_b ?_); refine go_c ?_; (try simp -implicitDefEqProofs only [kR_e, kQ_e, push_cast, Nat.reduceBEq, Nat.reduceAdd, Nat.reduceSub, Nat.reduceMul, Nat.reduceLT, Nat.reduceLeDiff, Nat.reduceEqDiff, reduceIte, Bool.not_true, Bool.not_false, true_and, and_true, Option.map_some, Option.bind_some, Int.toNat_natCast])
    refine hnil _ _ ?_
    rw [trimM, if_neg]
    rintro ⟨_, h9⟩
    simp [inO] at h9 h2
    omega
  (try simp -implicitDefEqProofs only [kR_e, kQ_e, push_cast, Nat.reduceBEq, Nat.reduceAdd, Nat.reduceSub, Nat.reduceMul, Nat.reduceLT, Nat.reduceLeDiff, Nat.reduceEqDiff, reduceIte, Bool.not_true, Bool.not_false, true_and, and_true, Option.map_some, Option.bind_some, Int.toNat_natCast])
  have h2 : inO st = true := by simp at h2; simp [inO]; omega
  refine ⟨_, ⟨_, rfl, .g e1⟩, ?_⟩
  (try simp -implicitDefEqProofs only [kR_e, kQ_e, push_cast, Nat.reduceBEq, Nat.reduceAdd, Nat.reduceSub, Nat.reduceMul, Nat.reduceLT, Nat.reduceLeDiff, Nat.reduceEqDiff, reduceIte, Bool.not_true, Bool.not_false, true_and, and_true, Option.map_some, Option.bind_some, Int.toNat_natCast])
  (repeat first | (with_reducible intro _) | refine go_seq ?_ | refine go_skip ?_ | refine go_lab ?_ | refine go_blk ?_ | refine go_b ?_); refine go_c ?_; (try simp -implicitDefEqProofs only [kR_e, kQ_e, push_cast, Nat.reduceBEq, Nat.reduceAdd, Nat.reduceSub, Nat.reduceMul, Nat.reduceLT, Nat.reduceLeDiff, Nat.reduceEqDiff, reduceIte, Bool.not_true, Bool.not_false, true_and, and_true, Option.map_some, Option.bind_some, Int.toNat_natCast])
  refine gb (fun h3 => ?_) (fun h3 => ?_)
  · refine hnil _ _ ?_
    have : l.length = 0 := by simpa using h3
    rw [trimM, this]
    simp
  have h3 : 0 < l.length := by simp at h3; exact List.length_pos_iff.2 h3
  (repeat first | (with_reducible intro _) | refine go_seq ?_ | refine go_skip ?_ | refine go_lab ?_ | refine go_blk ?_ | refine go_b ?_); refine go_r 20 25 (by decide) ?_; (try simp -implicitDefEqProofs only [kR_e, kQ_e, push_cast, Nat.reduceBEq, Nat.reduceAdd, Nat.reduceSub, Nat.reduceMul, Nat.reduceLT, Nat.reduceLeDiff, Nat.reduceEqDiff, reduceIte, Bool.not_true, Bool.not_false, true_and, and_true, Option.map_some, Option.bind_some, Int.toNat_natCast, c22r3])
  refine ⟨_, ⟨_, rfl, .g e1⟩, ?_⟩
  (try simp -implicitDefEqProofs only [kR_e, kQ_e, push_cast, Nat.reduceBEq, Nat.reduceAdd, Nat.reduceSub, Nat.reduceMul, Nat.reduceLT, Nat.reduceLeDiff, Nat.reduceEqDiff, reduceIte, Bool.not_true, Bool.not_false, true_and, and_true, Option.map_some, Option.bind_some, Int.toNat_natCast, len_i l.length h3 (by omega)])
  refine (Search_ok (l.length - 1) (by omega) (fun i => decide (∃ x, l[i + 1]? = some x ∧ st < x.2)) 38 #[.pointer (some ⟨b1, 0, none⟩), .pointer (some ⟨b2, 0, none⟩)] G2 (fun i hi => ?_) [] []).mono ?_
  · obtain ⟨x, hx⟩ : ∃ x, l[i + 1]? = some x := ⟨l[i + 1], List.getElem?_eq_getElem (by omega)⟩
    have := c38_ok l A c st G2 b1 b2 hc hm hA2 e1 e2 i x hx
    have he : decide (∃ x, l[i + 1]? = some x ∧ st < x.2) = decide (st < x.2) := by simp [hx]
    rw [he]
    exact this
  rintro r h' ⟨⟨j, hj, rfl, h4, h5⟩, rfl⟩
  obtain ⟨x, hx⟩ : ∃ x, l[j]? = some x := ⟨l[j], List.getElem?_eq_getElem (by omega)⟩
  have htr : trimM l st = (l.drop j).set 0 (x.1, max x.2 st) := trimM_drop h1 h2 hx (fun y hy => by
    have h6 := (List.getElem?_eq_some_iff.1 hy).1
    have := h4 (by omega)
    simpa [hy] using this) (fun h0 => by
    have := h5 h0
    rw [show j - 1 + 1 = j by omega] at this
    simpa [hx] using this)
  (try simp -implicitDefEqProofs only [kR_e, kQ_e, push_cast, Nat.reduceBEq, Nat.reduceAdd, Nat.reduceSub, Nat.reduceMul, Nat.reduceLT, Nat.reduceLeDiff, Nat.reduceEqDiff, reduceIte, Bool.not_true, Bool.not_false, true_and, and_true, Option.map_some, Option.bind_some, Int.toNat_natCast])
  (repeat first | (with_reducible intro _) | refine go_seq ?_ | refine go_skip ?_ | refine go_lab ?_ | refine go_blk ?_ | refine go_b ?_); refine go_r 25 29 (by decide) ?_; (try simp -implicitDefEqProofs only [kR_e, kQ_e, push_cast, Nat.reduceBEq, Nat.reduceAdd, Nat.reduceSub, Nat.reduceMul, Nat.reduceLT, Nat.reduceLeDiff, Nat.reduceEqDiff, reduceIte, Bool.not_true, Bool.not_false, true_and, and_true, Option.map_some, Option.bind_some, Int.toNat_natCast, c22r4])
  refine ⟨_, ⟨_, rfl, .g e1⟩, ?_⟩
  (try simp -implicitDefEqProofs only [kR_e, kQ_e, push_cast, Nat.reduceBEq, Nat.reduceAdd, Nat.reduceSub, Nat.reduceMul, Nat.reduceLT, Nat.reduceLeDiff, Nat.reduceEqDiff, reduceIte, Bool.not_true, Bool.not_false, true_and, and_true, Option.map_some, Option.bind_some, Int.toNat_natCast, slY_i, Int.toNat_natCast])
  refine ⟨by omega, ?_⟩
  have hlt : (l.drop j).length = l.length - j := by simp
  have htk : SEpo G2 (.slice (if c = j then A else A.map (·.add (j * 2))) (l.length - j) (c - j)) (l.drop j) := ⟨_, _, by rw [hlt], by omega, by omega, by
    have := hA2.cut (l := j) (n := l.length) (B := if c = j then A else A.map (·.add (j * 2))) (Nat.le_refl _) (fun _ => by rw [if_neg (by omega)])
    rw [List.take_length] at this
    exact this⟩
  refine (Clone_ok _ _ _ htk (by omega) [] []).mono ?_
  rintro r h' ⟨G', L', rfl, hg, ys, hys, rfl⟩
  (try simp -implicitDefEqProofs only [kR_e, kQ_e, push_cast, Nat.reduceBEq, Nat.reduceAdd, Nat.reduceSub, Nat.reduceMul, Nat.reduceLT, Nat.reduceLeDiff, Nat.reduceEqDiff, reduceIte, Bool.not_true, Bool.not_false, true_and, and_true, Option.map_some, Option.bind_some, Int.toNat_natCast])
  (repeat first | (with_reducible intro _) | refine go_seq ?_ | refine go_skip ?_ | refine go_lab ?_ | refine go_blk ?_ | refine go_b ?_)
  refine go_gx (gx_know (v := r) (.head _) (by omega)) ?_
  rintro h' ⟨rfl, g, c9, rfl, -, -⟩
  have hx0 : (l.drop j)[0]? = some x := by rw [List.getElem?_drop]; exact hx
  obtain ⟨cs, ⟨rfl, i1, i2⟩, _, hld⟩ := hys.get hx0
  have e2' := cellG_le hg e2
  (repeat first | (with_reducible intro _) | refine go_seq ?_ | refine go_skip ?_ | refine go_lab ?_ | refine go_blk ?_ | refine go_b ?_); refine go_t (by decide) ?_; (try simp -implicitDefEqProofs only [kR_e, kQ_e, push_cast, Nat.reduceBEq, Nat.reduceAdd, Nat.reduceSub, Nat.reduceMul, Nat.reduceLT, Nat.reduceLeDiff, Nat.reduceEqDiff, reduceIte, Bool.not_true, Bool.not_false, true_and, and_true, Option.map_some, Option.bind_some, Int.toNat_natCast, c22r5, c22r6])
  refine ⟨by omega, _, rfl, ?_⟩
  (try simp -implicitDefEqProofs only [kR_e, kQ_e, push_cast, Nat.reduceBEq, Nat.reduceAdd, Nat.reduceSub, Nat.reduceMul, Nat.reduceLT, Nat.reduceLeDiff, Nat.reduceEqDiff, reduceIte, Bool.not_true, Bool.not_false, true_and, and_true, Option.map_some, Option.bind_some, Int.toNat_natCast, Nat.zero_add, Nat.zero_mul, Int.toNat_zero])
  refine ⟨_, ldN_row (.head _) (by simpa using hld 1 _ rfl), ?_⟩
  (try simp -implicitDefEqProofs only [kR_e, kQ_e, push_cast, Nat.reduceBEq, Nat.reduceAdd, Nat.reduceSub, Nat.reduceMul, Nat.reduceLT, Nat.reduceLeDiff, Nat.reduceEqDiff, reduceIte, Bool.not_true, Bool.not_false, true_and, and_true, Option.map_some, Option.bind_some, Int.toNat_natCast])
  refine ⟨_, ⟨_, rfl, .g e2'⟩, ?_⟩
  (try simp -implicitDefEqProofs only [kR_e, kQ_e, push_cast, Nat.reduceBEq, Nat.reduceAdd, Nat.reduceSub, Nat.reduceMul, Nat.reduceLT, Nat.reduceLeDiff, Nat.reduceEqDiff, reduceIte, Bool.not_true, Bool.not_false, true_and, and_true, Option.map_some, Option.bind_some, Int.toNat_natCast])
  refine ⟨by omega, _, rfl, ?_⟩
  (try simp -implicitDefEqProofs only [kR_e, kQ_e, push_cast, Nat.reduceBEq, Nat.reduceAdd, Nat.reduceSub, Nat.reduceMul, Nat.reduceLT, Nat.reduceLeDiff, Nat.reduceEqDiff, reduceIte, Bool.not_true, Bool.not_false, true_and, and_true, Option.map_some, Option.bind_some, Int.toNat_natCast, Nat.zero_add, Nat.zero_mul, Int.toNat_zero])
  refine stX_row [] [] rfl (by have := hys.len; simp; omega) ⟨rfl, rfl⟩ ?_
  (try simp -implicitDefEqProofs only [kR_e, kQ_e, push_cast, Nat.reduceBEq, Nat.reduceAdd, Nat.reduceSub, Nat.reduceMul, Nat.reduceLT, Nat.reduceLeDiff, Nat.reduceEqDiff, reduceIte, Bool.not_true, Bool.not_false, true_and, and_true, Option.map_some, Option.bind_some, Int.toNat_natCast])
  (repeat first | (with_reducible intro _) | refine go_seq ?_ | refine go_skip ?_ | refine go_lab ?_ | refine go_blk ?_ | refine go_b ?_); refine go_r 38 39 (by decide) ?_; (try simp -implicitDefEqProofs only [kR_e, kQ_e, push_cast, Nat.reduceBEq, Nat.reduceAdd, Nat.reduceSub, Nat.reduceMul, Nat.reduceLT, Nat.reduceLeDiff, Nat.reduceEqDiff, reduceIte, Bool.not_true, Bool.not_false, true_and, and_true, Option.map_some, Option.bind_some, Int.toNat_natCast, c22r7])
  (repeat first | (with_reducible intro _) | refine go_seq ?_ | refine go_skip ?_ | refine go_lab ?_ | refine go_blk ?_ | refine go_b ?_)
  refine go_ret (retQ_o _ rfl (List.Sublist.refl _) (noRegs_row noRegs_nil) ?_)
  have hst64 : I64 st := by simp [inO] at h2; unfold I64; omega
  have hmx : I64 (max x.2 st) := by unfold I64 at *; omega
  have hset := hys.setF (k := 0) (o := 1) (x' := (x.1, max x.2 st)) (us := [.int .i64 (max x.2 st)]) hx0 (by simp) fun cs h _ => by
    rw [h.1]
    exact ⟨rfl, i1, hmx⟩
  refine ⟨_, by rw [htr]; exact hset, ?_⟩
  rw [htr]
  simp
  have hmx0 : (if x.2 < st then st else x.2) = max x.2 st := by split <;> omega
  exact ⟨rfl, by rw [hmx0]⟩
end Go.Proofs.Ytgclikgkfchmlaa

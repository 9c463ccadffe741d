/- What functions of the chapter on translations compute: part 8 of a proof. No condition. -/
import Derived.Test.YtbddbogdhkikoaaW7
set_option linter.unusedSimpArgs false
set_option linter.unusedVariables false
namespace Go.Proofs.Ytbddbogdhkikoaa
open Go Go.Kx

theorem gx_know2 {h : H} {v : Value} {et : TypeId} {sz n : Nat} {xs : List Value} (hm : Item.row v et sz n xs ∈ h.L) :
    GhostX h fun h' => h' = h ∧ ∃ A c, v = .slice A n c ∧ n ≤ c ∧ c ≤ maxLen ∧ (0 < n → ∃ g, A = some ⟨g, 0, none⟩) := GhostX.fact fun β w s => by
  obtain ⟨hl, hok⟩ := s.l _ hm
  rcases hok with ⟨A, rfl, rfl⟩ | ⟨g, cap, cur, rfl, hc, hg, hn, hm, hsz, htk⟩
  · exact ⟨A, 0, rfl, Nat.le_refl _, Nat.zero_le _, fun h => absurd h (by omega)⟩
  · exact ⟨_, cap, rfl, hn, hm, fun _ => ⟨g, rfl⟩⟩
theorem chain_bad1 {a b : Trans} (h : chkT a ≠ 0) : chainM a b = (⟨0, []⟩, chkT a) := by unfold chainM; rw [if_pos h]
theorem chain_bad2 {a b : Trans} (h : chkT a = 0) (h2 : chkT b ≠ 0) : chainM a b = (⟨0, []⟩, chkT b) := by unfold chainM; rw [if_neg (by simp [h]), if_pos h2]
theorem Chain2_ok (a b : Trans) (ca cb : List Value) (G : Nat → Option Obj) (ha : TE G a ca) (hb : TE G b cb) : FnD Try.prog 28 #[.agg ca.toArray, .agg cb.toArray] G (fun G' r => RetT (chainM a b).1 (chainM a b).2 G' r) := by
  have ha0 := ha
  have hb0 := hb
  obtain ⟨A, c, rfl, ⟨hc, hm, hA⟩, heva⟩ := ha
  obtain ⟨B, d, rfl, ⟨hd, hmd, hB⟩, hevb⟩ := hb
  refine F28.fnD (by simp) (go_of ?_)
  unfold c28
  (repeat first | (with_reducible intro _) | refine go_seq ?_ | refine go_skip ?_ | refine go_lab ?_ | refine go_blk ?_ | refine go_b ?_ | refine go_n ?_ | refine go_scp ?_); refine go_r 0 0 (by decide) ?_; (try simp -implicitDefEqProofs only [kR_e, kQ_e, push_cast, Nat.reduceBEq, Nat.reduceAdd, Nat.reduceSub, Nat.reduceMul, Nat.reduceLT, Nat.reduceLeDiff, Nat.reduceEqDiff, reduceIte, Bool.not_true, Bool.not_false, true_and, and_true, Option.map_some, Option.bind_some, Int.toNat_natCast, c28r0])
  (repeat first | (with_reducible intro _) | refine go_seq ?_ | refine go_skip ?_ | refine go_lab ?_ | refine go_blk ?_ | refine go_b ?_ | refine go_n ?_ | refine go_scp ?_); refine go_r 12 14 (by decide) ?_; (try simp -implicitDefEqProofs only [kR_e, kQ_e, push_cast, Nat.reduceBEq, Nat.reduceAdd, Nat.reduceSub, Nat.reduceMul, Nat.reduceLT, Nat.reduceLeDiff, Nat.reduceEqDiff, reduceIte, Bool.not_true, Bool.not_false, true_and, and_true, Option.map_some, Option.bind_some, Int.toNat_natCast, c28r1])
  refine (Check2_ok a _ G ha0 _ _).mono ?_; rintro _ _ ⟨rfl, rfl⟩; (try simp -implicitDefEqProofs only [kR_e, kQ_e, push_cast, Nat.reduceBEq, Nat.reduceAdd, Nat.reduceSub, Nat.reduceMul, Nat.reduceLT, Nat.reduceLeDiff, Nat.reduceEqDiff, reduceIte, Bool.not_true, Bool.not_false, true_and, and_true, Option.map_some, Option.bind_some, Int.toNat_natCast])
  intro b0
  refine go_seq ?_
  refine go_cut (fun e' h' => e' 6 = .int .i64 (if chkT a ≠ 0 then chkT a else chkT b) ∧ h' = ⟨G, [.reg 4 [.int .i64 0, .slice none 0 0], .reg 3 [.int .i64 b.every, .slice B b.l.length d], .reg 2 [.int .i64 a.every, .slice A a.l.length c]], []⟩) ?_ ?_
  · (repeat first | (with_reducible intro _) | refine go_seq ?_ | refine go_skip ?_ | refine go_lab ?_ | refine go_blk ?_ | refine go_b ?_ | refine go_n ?_ | refine go_scp ?_); refine go_r 14 15 (by decide) ?_; (try simp -implicitDefEqProofs only [kR_e, kQ_e, push_cast, Nat.reduceBEq, Nat.reduceAdd, Nat.reduceSub, Nat.reduceMul, Nat.reduceLT, Nat.reduceLeDiff, Nat.reduceEqDiff, reduceIte, Bool.not_true, Bool.not_false, true_and, and_true, Option.map_some, Option.bind_some, Int.toNat_natCast, c28r2])
    (repeat first | (with_reducible intro _) | refine go_seq ?_ | refine go_skip ?_ | refine go_lab ?_ | refine go_blk ?_ | refine go_b ?_ | refine go_n ?_ | refine go_scp ?_); refine go_c ?_; (try simp -implicitDefEqProofs only [kR_e, kQ_e, push_cast, Nat.reduceBEq, Nat.reduceAdd, Nat.reduceSub, Nat.reduceMul, Nat.reduceLT, Nat.reduceLeDiff, Nat.reduceEqDiff, reduceIte, Bool.not_true, Bool.not_false, true_and, and_true, Option.map_some, Option.bind_some, Int.toNat_natCast])
    refine gb (fun h1 => ?_) (fun h1 => ?_)
    · (repeat first | (with_reducible intro _) | refine go_seq ?_ | refine go_skip ?_ | refine go_lab ?_ | refine go_blk ?_ | refine go_b ?_ | refine go_n ?_ | refine go_scp ?_); refine go_r 16 18 (by decide) ?_; (try simp -implicitDefEqProofs only [kR_e, kQ_e, push_cast, Nat.reduceBEq, Nat.reduceAdd, Nat.reduceSub, Nat.reduceMul, Nat.reduceLT, Nat.reduceLeDiff, Nat.reduceEqDiff, reduceIte, Bool.not_true, Bool.not_false, true_and, and_true, Option.map_some, Option.bind_some, Int.toNat_natCast, c28r3])
      refine (Check2_ok b _ G hb0 _ _).mono ?_; rintro _ _ ⟨rfl, rfl⟩; (try simp -implicitDefEqProofs only [kR_e, kQ_e, push_cast, Nat.reduceBEq, Nat.reduceAdd, Nat.reduceSub, Nat.reduceMul, Nat.reduceLT, Nat.reduceLeDiff, Nat.reduceEqDiff, reduceIte, Bool.not_true, Bool.not_false, true_and, and_true, Option.map_some, Option.bind_some, Int.toNat_natCast])
      (repeat first | (with_reducible intro _) | refine go_seq ?_ | refine go_skip ?_ | refine go_lab ?_ | refine go_blk ?_ | refine go_b ?_ | refine go_n ?_ | refine go_scp ?_)
      refine go_l ⟨?_, rfl⟩
      rw [if_neg (by simpa using h1)]
      (try simp -implicitDefEqProofs only [kR_e, kQ_e, push_cast, Nat.reduceBEq, Nat.reduceAdd, Nat.reduceSub, Nat.reduceMul, Nat.reduceLT, Nat.reduceLeDiff, Nat.reduceEqDiff, reduceIte, Bool.not_true, Bool.not_false, true_and, and_true, Option.map_some, Option.bind_some, Int.toNat_natCast])
    · (repeat first | (with_reducible intro _) | refine go_seq ?_ | refine go_skip ?_ | refine go_lab ?_ | refine go_blk ?_ | refine go_b ?_ | refine go_n ?_ | refine go_scp ?_)
      refine go_l ⟨?_, rfl⟩
      rw [if_pos (by simpa using h1)]
      (try simp -implicitDefEqProofs only [kR_e, kQ_e, push_cast, Nat.reduceBEq, Nat.reduceAdd, Nat.reduceSub, Nat.reduceMul, Nat.reduceLT, Nat.reduceLeDiff, Nat.reduceEqDiff, reduceIte, Bool.not_true, Bool.not_false, true_and, and_true, Option.map_some, Option.bind_some, Int.toNat_natCast])
  rintro e' h' ⟨e6, rfl⟩
  refine go_keep [6] ?_
  (try simp -implicitDefEqProofs only [kR_e, kQ_e, push_cast, Nat.reduceBEq, Nat.reduceAdd, Nat.reduceSub, Nat.reduceMul, Nat.reduceLT, Nat.reduceLeDiff, Nat.reduceEqDiff, reduceIte, Bool.not_true, Bool.not_false, true_and, and_true, Option.map_some, Option.bind_some, Int.toNat_natCast, e6])
  (repeat first | (with_reducible intro _) | refine go_seq ?_ | refine go_skip ?_ | refine go_lab ?_ | refine go_blk ?_ | refine go_b ?_ | refine go_n ?_ | refine go_scp ?_); refine go_r 18 19 (by decide) ?_; (try simp -implicitDefEqProofs only [kR_e, kQ_e, push_cast, Nat.reduceBEq, Nat.reduceAdd, Nat.reduceSub, Nat.reduceMul, Nat.reduceLT, Nat.reduceLeDiff, Nat.reduceEqDiff, reduceIte, Bool.not_true, Bool.not_false, true_and, and_true, Option.map_some, Option.bind_some, Int.toNat_natCast, c28r4])
  (repeat first | (with_reducible intro _) | refine go_seq ?_ | refine go_skip ?_ | refine go_lab ?_ | refine go_blk ?_ | refine go_b ?_ | refine go_n ?_ | refine go_scp ?_); refine go_c ?_; (try simp -implicitDefEqProofs only [kR_e, kQ_e, push_cast, Nat.reduceBEq, Nat.reduceAdd, Nat.reduceSub, Nat.reduceMul, Nat.reduceLT, Nat.reduceLeDiff, Nat.reduceEqDiff, reduceIte, Bool.not_true, Bool.not_false, true_and, and_true, Option.map_some, Option.bind_some, Int.toNat_natCast])
  refine gb (fun h1 => ?_) (fun h1 => ?_)
  · (repeat first | (with_reducible intro _) | refine go_seq ?_ | refine go_skip ?_ | refine go_lab ?_ | refine go_blk ?_ | refine go_b ?_ | refine go_n ?_ | refine go_scp ?_); refine go_r 20 22 (by decide) ?_; (try simp -implicitDefEqProofs only [kR_e, kQ_e, push_cast, Nat.reduceBEq, Nat.reduceAdd, Nat.reduceSub, Nat.reduceMul, Nat.reduceLT, Nat.reduceLeDiff, Nat.reduceEqDiff, reduceIte, Bool.not_true, Bool.not_false, true_and, and_true, Option.map_some, Option.bind_some, Int.toNat_natCast, c28r5])
    (repeat first | (with_reducible intro _) | refine go_seq ?_ | refine go_skip ?_ | refine go_lab ?_ | refine go_blk ?_ | refine go_b ?_ | refine go_n ?_ | refine go_scp ?_)
    refine go_ret (retQ_v rfl ?_); simp only [push_cast, Nat.reduceBEq]
    have h1 : ¬ (if chkT a ≠ 0 then chkT a else chkT b) = 0 := by simpa using h1
    have : chainM a b = (⟨0, []⟩, if chkT a ≠ 0 then chkT a else chkT b) := by
      by_cases h2 : chkT a ≠ 0
      · rw [if_pos h2, chain_bad1 h2]
      · rw [if_neg h2] at h1 ⊢
        rw [chain_bad2 (Classical.not_not.1 h2) h1]
    rw [this]
    exact ⟨_, rfl, TE.zero _ 0 i64_0⟩
  have h1 : (if chkT a ≠ 0 then chkT a else chkT b) = 0 := by simpa using h1
  have hca : chkT a = 0 := by
    by_cases h2 : chkT a ≠ 0
    · rw [if_pos h2] at h1; exact h1
    · exact Classical.not_not.1 h2
  have hcb : chkT b = 0 := by rw [if_neg (by simp [hca])] at h1; exact h1
  obtain ⟨hla, hga, hea⟩ := (chk0_iff a).1 hca
  obtain ⟨hlb, hgb, heb⟩ := (chk0_iff b).1 hcb
  have hmx : I64 (max a.every b.every) := by unfold I64 at *; omega
  (repeat first | (with_reducible intro _) | refine go_seq ?_ | refine go_skip ?_ | refine go_lab ?_ | refine go_blk ?_ | refine go_b ?_ | refine go_n ?_ | refine go_scp ?_); refine go_r 23 28 (by decide) ?_; (try simp -implicitDefEqProofs only [kR_e, kQ_e, push_cast, Nat.reduceBEq, Nat.reduceAdd, Nat.reduceSub, Nat.reduceMul, Nat.reduceLT, Nat.reduceLeDiff, Nat.reduceEqDiff, reduceIte, Bool.not_true, Bool.not_false, true_and, and_true, Option.map_some, Option.bind_some, Int.toNat_natCast, c28r6])
  (repeat first | (with_reducible intro _) | refine go_seq ?_ | refine go_skip ?_ | refine go_lab ?_ | refine go_blk ?_ | refine go_b ?_ | refine go_n ?_ | refine go_scp ?_); refine go_r 0 0 (by decide) ?_; (try simp -implicitDefEqProofs only [kR_e, kQ_e, push_cast, Nat.reduceBEq, Nat.reduceAdd, Nat.reduceSub, Nat.reduceMul, Nat.reduceLT, Nat.reduceLeDiff, Nat.reduceEqDiff, reduceIte, Bool.not_true, Bool.not_false, true_and, and_true, Option.map_some, Option.bind_some, Int.toNat_natCast, c28r7])
  (repeat first | (with_reducible intro _) | refine go_seq ?_ | refine go_skip ?_ | refine go_lab ?_ | refine go_blk ?_ | refine go_b ?_ | refine go_n ?_ | refine go_scp ?_)
  refine go_ghost (ghost_nil none 44 2) ?_
  refine go_loop (fun e h => ∃ (k : Nat) (u : Value) (zc : List Value), (k ≤ a.l.length ∧ Cells EE 2 (chainF (a.l.take k) b.l) zc) ∧ e 8 = .int .i64 k ∧ h.G = G ∧ h.D = [] ∧
      [Item.row u 44 2 (chainF (a.l.take k) b.l).length zc, .reg 7 [.int .i64 (max a.every b.every), u], .reg 4 [.int .i64 0, .slice none 0 0], .reg 3 [.int .i64 b.every, .slice B b.l.length d], .reg 2 [.int .i64 a.every, .slice A a.l.length c]].Sublist h.L) (fun e h => a.l.length - iv (e 8)) ?_ ?_
  · exact ⟨0, _, [], ⟨Nat.zero_le _, .nil⟩, by (try simp -implicitDefEqProofs only [kR_e, kQ_e, push_cast, Nat.reduceBEq, Nat.reduceAdd, Nat.reduceSub, Nat.reduceMul, Nat.reduceLT, Nat.reduceLeDiff, Nat.reduceEqDiff, reduceIte, Bool.not_true, Bool.not_false, true_and, and_true, Option.map_some, Option.bind_some, Int.toNat_natCast]), rfl, rfl, List.Sublist.refl _⟩
  · rintro e ⟨G', L, D⟩ ⟨k, u, zc, ⟨hk, hcs⟩, e8, hG, hD, hL⟩
    dsimp only at hG hD hL
    subst hG hD
    refine go_ghost (ghost_sub hL) ?_
    have hlen := chainF_len a.l b.l k
    refine go_keep [8] ?_
    (try simp -implicitDefEqProofs only [kR_e, kQ_e, push_cast, Nat.reduceBEq, Nat.reduceAdd, Nat.reduceSub, Nat.reduceMul, Nat.reduceLT, Nat.reduceLeDiff, Nat.reduceEqDiff, reduceIte, Bool.not_true, Bool.not_false, true_and, and_true, Option.map_some, Option.bind_some, Int.toNat_natCast, e8])
    (repeat first | (with_reducible intro _) | refine go_seq ?_ | refine go_skip ?_ | refine go_lab ?_ | refine go_blk ?_ | refine go_b ?_ | refine go_n ?_ | refine go_scp ?_); refine go_r 28 32 (by decide) ?_; (try simp -implicitDefEqProofs only [kR_e, kQ_e, push_cast, Nat.reduceBEq, Nat.reduceAdd, Nat.reduceSub, Nat.reduceMul, Nat.reduceLT, Nat.reduceLeDiff, Nat.reduceEqDiff, reduceIte, Bool.not_true, Bool.not_false, true_and, and_true, Option.map_some, Option.bind_some, Int.toNat_natCast, c28r8])
    (repeat first | (with_reducible intro _) | refine go_seq ?_ | refine go_skip ?_ | refine go_lab ?_ | refine go_blk ?_ | refine go_b ?_ | refine go_n ?_ | refine go_scp ?_); refine go_c ?_; (try simp -implicitDefEqProofs only [kR_e, kQ_e, push_cast, Nat.reduceBEq, Nat.reduceAdd, Nat.reduceSub, Nat.reduceMul, Nat.reduceLT, Nat.reduceLeDiff, Nat.reduceEqDiff, reduceIte, Bool.not_true, Bool.not_false, true_and, and_true, Option.map_some, Option.bind_some, Int.toNat_natCast])
    refine gb (fun ht => ?_) (fun ht => ?_)
    · have hkl : k < a.l.length := by simpa using ht
      have hw3 := inc_i k c (by omega) hm
      obtain ⟨p, hp⟩ : ∃ p, a.l[k]? = some p := ⟨a.l[k], List.getElem?_eq_getElem (by omega)⟩
      have hnext := chainF_succ (bl := b.l) hp
      have hp64 : I64 p.1 := by have := hga.1 p (List.mem_of_getElem? hp); simp [inP, inO] at this; unfold I64; omega
      generalize hout : chainF (a.l.take k) b.l = out at *
      (repeat first | (with_reducible intro _) | refine go_seq ?_ | refine go_skip ?_ | refine go_lab ?_ | refine go_blk ?_ | refine go_b ?_ | refine go_n ?_ | refine go_scp ?_); refine go_x _ (List.Sublist.refl _) (by decide) ?_; (try simp -implicitDefEqProofs only [kR_e, kQ_e, push_cast, Nat.reduceBEq, Nat.reduceAdd, Nat.reduceSub, Nat.reduceMul, Nat.reduceLT, Nat.reduceLeDiff, Nat.reduceEqDiff, reduceIte, Bool.not_true, Bool.not_false, true_and, and_true, Option.map_some, Option.bind_some, Int.toNat_natCast, c28r9])
      refine hA.y_lf hp rfl rfl (fun cs h => by rw [h.1]; rfl) fun aa ha => ?_
      (try simp -implicitDefEqProofs only [kR_e, kQ_e, push_cast, Nat.reduceBEq, Nat.reduceAdd, Nat.reduceSub, Nat.reduceMul, Nat.reduceLT, Nat.reduceLeDiff, Nat.reduceEqDiff, reduceIte, Bool.not_true, Bool.not_false, true_and, and_true, Option.map_some, Option.bind_some, Int.toNat_natCast])
      refine (Down2_ok b _ p.2 G' hb0 _ _).mono ?_; rintro _ _ ⟨rfl, rfl⟩; (try simp -implicitDefEqProofs only [kR_e, kQ_e, push_cast, Nat.reduceBEq, Nat.reduceAdd, Nat.reduceSub, Nat.reduceMul, Nat.reduceLT, Nat.reduceLeDiff, Nat.reduceEqDiff, reduceIte, Bool.not_true, Bool.not_false, true_and, and_true, Option.map_some, Option.bind_some, Int.toNat_natCast, tellV])
      refine go_cut (fun e' h' => ∃ (u' : Value) (zc' : List Value), Cells EE 2 (chStep b.l out p) zc' ∧ e' 8 = .int .i64 k ∧ h'.G = G' ∧ h'.D = [] ∧ [Item.row u' 44 2 (chStep b.l out p).length zc', .reg 7 [.int .i64 (max a.every b.every), u'], .reg 4 [.int .i64 0, .slice none 0 0], .reg 3 [.int .i64 b.every, .slice B b.l.length d], .reg 2 [.int .i64 a.every, .slice A a.l.length c]].Sublist h'.L) ?_ ?_
      · (repeat first | (with_reducible intro _) | refine go_seq ?_ | refine go_skip ?_ | refine go_lab ?_ | refine go_blk ?_ | refine go_b ?_ | refine go_n ?_ | refine go_scp ?_)
        refine go_gx (gx_know2 (v := u) (.head _)) ?_
        rintro h' ⟨rfl, A3, c3, rfl, hc3, hm3, hA3⟩
        (repeat first | (with_reducible intro _) | refine go_seq ?_ | refine go_skip ?_ | refine go_lab ?_ | refine go_blk ?_ | refine go_b ?_ | refine go_n ?_ | refine go_scp ?_); refine go_r 47 49 (by decide) ?_; (try simp -implicitDefEqProofs only [kR_e, kQ_e, push_cast, Nat.reduceBEq, Nat.reduceAdd, Nat.reduceSub, Nat.reduceMul, Nat.reduceLT, Nat.reduceLeDiff, Nat.reduceEqDiff, reduceIte, Bool.not_true, Bool.not_false, true_and, and_true, Option.map_some, Option.bind_some, Int.toNat_natCast, c28r10])
        have hsame : ∀ (fr : List Td) (e : Env) (L : List Kx.Item), chStep b.l out p = out → e 8 = .int .i64 k → go none Try.prog 79 v28.1 v28.2 (retQ o28 fun v h => RetT (chainM a b).1 (chainM a b).2 h.G v) (Td.l (fun e' h' => ∃ (u' : Value) (zc' : List Value), Cells EE 2 (chStep b.l out p) zc' ∧ e' 8 = .int .i64 k ∧ h'.G = G' ∧ h'.D = [] ∧ [Item.row u' 44 2 (chStep b.l out p).length zc', .reg 7 [.int .i64 (max a.every b.every), u'], .reg 4 [.int .i64 0, .slice none 0 0], .reg 3 [.int .i64 b.every, .slice B b.l.length d], .reg 2 [.int .i64 a.every, .slice A a.l.length c]].Sublist h'.L) :: fr) e ⟨G', [.row (.slice A3 out.length c3) 44 2 out.length zc, .reg 7 [.int .i64 (max a.every b.every), .slice A3 out.length c3], .reg 4 [.int .i64 0, .slice none 0 0], .reg 3 [.int .i64 b.every, .slice B b.l.length d], .reg 2 [.int .i64 a.every, .slice A a.l.length c]], []⟩ := fun fr e L hst e8 => by
          exact go_l ⟨.slice A3 out.length c3, zc, by rw [hst]; exact hcs, e8, rfl, rfl, by rw [hst]; exact List.Sublist.refl _⟩
        cases hlq : lastP true b.l p.2 with
        | none =>
          have ht : toldM b true p.2 = (0, false) := by rw [toldM_good hcb, hlq]
          rw [ht]
          (repeat first | (with_reducible intro _) | refine go_seq ?_ | refine go_skip ?_ | refine go_lab ?_ | refine go_blk ?_ | refine go_b ?_ | refine go_n ?_ | refine go_scp ?_); refine go_r 49 64 (by decide) ?_; (try simp -implicitDefEqProofs only [kR_e, kQ_e, push_cast, Nat.reduceBEq, Nat.reduceAdd, Nat.reduceSub, Nat.reduceMul, Nat.reduceLT, Nat.reduceLeDiff, Nat.reduceEqDiff, reduceIte, Bool.not_true, Bool.not_false, true_and, and_true, Option.map_some, Option.bind_some, Int.toNat_natCast, c28r11])
          (repeat first | (with_reducible intro _) | refine go_seq ?_ | refine go_skip ?_ | refine go_lab ?_ | refine go_blk ?_ | refine go_b ?_ | refine go_n ?_ | refine go_scp ?_); refine go_c ?_; (try simp -implicitDefEqProofs only [kR_e, kQ_e, push_cast, Nat.reduceBEq, Nat.reduceAdd, Nat.reduceSub, Nat.reduceMul, Nat.reduceLT, Nat.reduceLeDiff, Nat.reduceEqDiff, reduceIte, Bool.not_true, Bool.not_false, true_and, and_true, Option.map_some, Option.bind_some, Int.toNat_natCast])
          (repeat first | (with_reducible intro _) | refine go_seq ?_ | refine go_skip ?_ | refine go_lab ?_ | refine go_blk ?_ | refine go_b ?_ | refine go_n ?_ | refine go_scp ?_)
          exact hsame _ _ [] (chStep_none hlq) (by (try simp -implicitDefEqProofs only [kR_e, kQ_e, push_cast, Nat.reduceBEq, Nat.reduceAdd, Nat.reduceSub, Nat.reduceMul, Nat.reduceLT, Nat.reduceLeDiff, Nat.reduceEqDiff, reduceIte, Bool.not_true, Bool.not_false, true_and, and_true, Option.map_some, Option.bind_some, Int.toNat_natCast]))
        | some q =>
          have ht : toldM b true p.2 = (q.2, true) := by rw [toldM_good hcb, hlq]; rfl
          have hqin := hgb.1 q (lastP_mem hlq).1
          have hq64 : I64 q.2 := by simp [inP, inO] at hqin; unfold I64; omega
          rw [ht]
          have hnew : ∀ (fr : List Td) (e : Env), ¬ out.getLast?.map (·.2) = some q.2 → e 8 = .int .i64 k → e 9 = .int .i64 q.2 → go none Try.prog 79 v28.1 v28.2 (retQ o28 fun v h => RetT (chainM a b).1 (chainM a b).2 h.G v) (Td.s (.rgY c28r12 c28r13) :: Td.l (fun e' h' => ∃ (u' : Value) (zc' : List Value), Cells EE 2 (chStep b.l out p) zc' ∧ e' 8 = .int .i64 k ∧ h'.G = G' ∧ h'.D = [] ∧ [Item.row u' 44 2 (chStep b.l out p).length zc', .reg 7 [.int .i64 (max a.every b.every), u'], .reg 4 [.int .i64 0, .slice none 0 0], .reg 3 [.int .i64 b.every, .slice B b.l.length d], .reg 2 [.int .i64 a.every, .slice A a.l.length c]].Sublist h'.L) :: fr) e ⟨G', [.row (.slice A3 out.length c3) 44 2 out.length zc, .reg 7 [.int .i64 (max a.every b.every), .slice A3 out.length c3], .reg 4 [.int .i64 0, .slice none 0 0], .reg 3 [.int .i64 b.every, .slice B b.l.length d], .reg 2 [.int .i64 a.every, .slice A a.l.length c]], []⟩ := fun fr e hn e8 e9 => by
            (repeat first | (with_reducible intro _) | refine go_seq ?_ | refine go_skip ?_ | refine go_lab ?_ | refine go_blk ?_ | refine go_b ?_ | refine go_n ?_ | refine go_scp ?_); refine go_y _ (.cons _ (List.Sublist.refl _)) (by decide) ?_; (try simp -implicitDefEqProofs only [kR_e, kQ_e, push_cast, Nat.reduceBEq, Nat.reduceAdd, Nat.reduceSub, Nat.reduceMul, Nat.reduceLT, Nat.reduceLeDiff, Nat.reduceEqDiff, reduceIte, Bool.not_true, Bool.not_false, true_and, and_true, Option.map_some, Option.bind_some, Int.toNat_natCast, c28r12, c28r13, e8, e9])
            refine hA.y_lf hp rfl rfl (fun cs h => by rw [h.1]; rfl) fun aa ha => ?_
            (try simp -implicitDefEqProofs only [kR_e, kQ_e, push_cast, Nat.reduceBEq, Nat.reduceAdd, Nat.reduceSub, Nat.reduceMul, Nat.reduceLT, Nat.reduceLeDiff, Nat.reduceEqDiff, reduceIte, Bool.not_true, Bool.not_false, true_and, and_true, Option.map_some, Option.bind_some, Int.toNat_natCast, e9])
            intro b3 hb3
            refine ⟨grow_L (fun _ _ h => h) (.cons _ (.cons _ (List.Sublist.refl _))), ?_⟩
            (try simp -implicitDefEqProofs only [kR_e, kQ_e, push_cast, Nat.reduceBEq, Nat.reduceAdd, Nat.reduceSub, Nat.reduceMul, Nat.reduceLT, Nat.reduceLeDiff, Nat.reduceEqDiff, reduceIte, Bool.not_true, Bool.not_false, true_and, and_true, Option.map_some, Option.bind_some, Int.toNat_natCast])
            refine app1 (L1 := []) (L2 := [_, _, _, _]) (x := (p.1, q.2)) rfl hcs (by omega) hp64 hq64 fun A2 c2 zc' hzc => ?_
            (try simp -implicitDefEqProofs only [kR_e, kQ_e, push_cast, Nat.reduceBEq, Nat.reduceAdd, Nat.reduceSub, Nat.reduceMul, Nat.reduceLT, Nat.reduceLeDiff, Nat.reduceEqDiff, reduceIte, Bool.not_true, Bool.not_false, true_and, and_true, Option.map_some, Option.bind_some, Int.toNat_natCast])
            refine ⟨grow_L (fun _ _ h => h) (.cons _ (.cons _ (List.Sublist.refl _))), ?_⟩
            (try simp -implicitDefEqProofs only [kR_e, kQ_e, push_cast, Nat.reduceBEq, Nat.reduceAdd, Nat.reduceSub, Nat.reduceMul, Nat.reduceLT, Nat.reduceLeDiff, Nat.reduceEqDiff, reduceIte, Bool.not_true, Bool.not_false, true_and, and_true, Option.map_some, Option.bind_some, Int.toNat_natCast])
            (repeat first | (with_reducible intro _) | refine go_seq ?_ | refine go_skip ?_ | refine go_lab ?_ | refine go_blk ?_ | refine go_b ?_ | refine go_n ?_ | refine go_scp ?_)
            exact go_l ⟨.slice A2 (out ++ [(p.1, q.2)]).length c2, zc', by rw [chStep_new hlq hn]; exact hzc, by (try simp -implicitDefEqProofs only [kR_e, kQ_e, push_cast, Nat.reduceBEq, Nat.reduceAdd, Nat.reduceSub, Nat.reduceMul, Nat.reduceLT, Nat.reduceLeDiff, Nat.reduceEqDiff, reduceIte, Bool.not_true, Bool.not_false, true_and, and_true, Option.map_some, Option.bind_some, Int.toNat_natCast, e8]), rfl, rfl, by rw [chStep_new hlq hn]; exact .cons _ (List.Sublist.refl _)⟩
          (repeat first | (with_reducible intro _) | refine go_seq ?_ | refine go_skip ?_ | refine go_lab ?_ | refine go_blk ?_ | refine go_b ?_ | refine go_n ?_ | refine go_scp ?_); refine go_r 49 64 (by decide) ?_; (try simp -implicitDefEqProofs only [kR_e, kQ_e, push_cast, Nat.reduceBEq, Nat.reduceAdd, Nat.reduceSub, Nat.reduceMul, Nat.reduceLT, Nat.reduceLeDiff, Nat.reduceEqDiff, reduceIte, Bool.not_true, Bool.not_false, true_and, and_true, Option.map_some, Option.bind_some, Int.toNat_natCast, c28r11])
          refine gd (fun h2 => ?_) (fun h2 => ?_)
          · have ho : out = [] := by simpa using h2
            (try simp -implicitDefEqProofs only [kR_e, kQ_e, push_cast, Nat.reduceBEq, Nat.reduceAdd, Nat.reduceSub, Nat.reduceMul, Nat.reduceLT, Nat.reduceLeDiff, Nat.reduceEqDiff, reduceIte, Bool.not_true, Bool.not_false, true_and, and_true, Option.map_some, Option.bind_some, Int.toNat_natCast])
            (repeat first | (with_reducible intro _) | refine go_seq ?_ | refine go_skip ?_ | refine go_lab ?_ | refine go_blk ?_ | refine go_b ?_ | refine go_n ?_ | refine go_scp ?_); refine go_c ?_; (try simp -implicitDefEqProofs only [kR_e, kQ_e, push_cast, Nat.reduceBEq, Nat.reduceAdd, Nat.reduceSub, Nat.reduceMul, Nat.reduceLT, Nat.reduceLeDiff, Nat.reduceEqDiff, reduceIte, Bool.not_true, Bool.not_false, true_and, and_true, Option.map_some, Option.bind_some, Int.toNat_natCast])
            refine hnew _ _ (by rw [ho]; simp) (by (try simp -implicitDefEqProofs only [kR_e, kQ_e, push_cast, Nat.reduceBEq, Nat.reduceAdd, Nat.reduceSub, Nat.reduceMul, Nat.reduceLT, Nat.reduceLeDiff, Nat.reduceEqDiff, reduceIte, Bool.not_true, Bool.not_false, true_and, and_true, Option.map_some, Option.bind_some, Int.toNat_natCast])) (by (try simp -implicitDefEqProofs only [kR_e, kQ_e, push_cast, Nat.reduceBEq, Nat.reduceAdd, Nat.reduceSub, Nat.reduceMul, Nat.reduceLT, Nat.reduceLeDiff, Nat.reduceEqDiff, reduceIte, Bool.not_true, Bool.not_false, true_and, and_true, Option.map_some, Option.bind_some, Int.toNat_natCast]))
          · have ho : 0 < out.length := by
              rcases out with _ | ⟨z, zs⟩
              · simp at h2
              · simp
            obtain ⟨z, hz⟩ : ∃ z, out[out.length - 1]? = some z := ⟨out[out.length - 1], List.getElem?_eq_getElem (by omega)⟩
            have hzl : out.getLast? = some z := by rw [List.getLast?_eq_getElem?]; exact hz
            obtain ⟨g3, rfl⟩ := hA3 ho
            obtain ⟨cs, ⟨rfl, -, -⟩, _, hld⟩ := hcs.get hz
            (try simp -implicitDefEqProofs only [kR_e, kQ_e, push_cast, Nat.reduceBEq, Nat.reduceAdd, Nat.reduceSub, Nat.reduceMul, Nat.reduceLT, Nat.reduceLeDiff, Nat.reduceEqDiff, reduceIte, Bool.not_true, Bool.not_false, true_and, and_true, Option.map_some, Option.bind_some, Int.toNat_natCast, len_i out.length ho (by omega)])
            refine ⟨by omega, _, rfl, ?_⟩
            (try simp -implicitDefEqProofs only [kR_e, kQ_e, push_cast, Nat.reduceBEq, Nat.reduceAdd, Nat.reduceSub, Nat.reduceMul, Nat.reduceLT, Nat.reduceLeDiff, Nat.reduceEqDiff, reduceIte, Bool.not_true, Bool.not_false, true_and, and_true, Option.map_some, Option.bind_some, Int.toNat_natCast, Nat.zero_add])
            refine ⟨_, ldN_row (.head _) (hld 1 _ rfl), ?_⟩
            (try simp -implicitDefEqProofs only [kR_e, kQ_e, push_cast, Nat.reduceBEq, Nat.reduceAdd, Nat.reduceSub, Nat.reduceMul, Nat.reduceLT, Nat.reduceLeDiff, Nat.reduceEqDiff, reduceIte, Bool.not_true, Bool.not_false, true_and, and_true, Option.map_some, Option.bind_some, Int.toNat_natCast])
            (repeat first | (with_reducible intro _) | refine go_seq ?_ | refine go_skip ?_ | refine go_lab ?_ | refine go_blk ?_ | refine go_b ?_ | refine go_n ?_ | refine go_scp ?_); refine go_c ?_; (try simp -implicitDefEqProofs only [kR_e, kQ_e, push_cast, Nat.reduceBEq, Nat.reduceAdd, Nat.reduceSub, Nat.reduceMul, Nat.reduceLT, Nat.reduceLeDiff, Nat.reduceEqDiff, reduceIte, Bool.not_true, Bool.not_false, true_and, and_true, Option.map_some, Option.bind_some, Int.toNat_natCast])
            refine gb (fun h3 => ?_) (fun h3 => ?_)
            · refine hnew _ _ ?_ (by (try simp -implicitDefEqProofs only [kR_e, kQ_e, push_cast, Nat.reduceBEq, Nat.reduceAdd, Nat.reduceSub, Nat.reduceMul, Nat.reduceLT, Nat.reduceLeDiff, Nat.reduceEqDiff, reduceIte, Bool.not_true, Bool.not_false, true_and, and_true, Option.map_some, Option.bind_some, Int.toNat_natCast])) (by (try simp -implicitDefEqProofs only [kR_e, kQ_e, push_cast, Nat.reduceBEq, Nat.reduceAdd, Nat.reduceSub, Nat.reduceMul, Nat.reduceLT, Nat.reduceLeDiff, Nat.reduceEqDiff, reduceIte, Bool.not_true, Bool.not_false, true_and, and_true, Option.map_some, Option.bind_some, Int.toNat_natCast]))
              rw [hzl]
              simpa using h3
            · (repeat first | (with_reducible intro _) | refine go_seq ?_ | refine go_skip ?_ | refine go_lab ?_ | refine go_blk ?_ | refine go_b ?_ | refine go_n ?_ | refine go_scp ?_)
              refine hsame _ _ [] (chStep_same hlq ?_) (by (try simp -implicitDefEqProofs only [kR_e, kQ_e, push_cast, Nat.reduceBEq, Nat.reduceAdd, Nat.reduceSub, Nat.reduceMul, Nat.reduceLT, Nat.reduceLeDiff, Nat.reduceEqDiff, reduceIte, Bool.not_true, Bool.not_false, true_and, and_true, Option.map_some, Option.bind_some, Int.toNat_natCast]))
              rw [hzl]
              simpa using h3
      · rintro e' ⟨G2, L2, D2⟩ ⟨u', zc', hcs', f8, hG, hD, hL'⟩
        dsimp only at hG hD hL'
        subst hG hD
        (repeat first | (with_reducible intro _) | refine go_seq ?_ | refine go_skip ?_ | refine go_lab ?_ | refine go_blk ?_ | refine go_b ?_ | refine go_n ?_ | refine go_scp ?_); refine go_r 33 35 (by decide) ?_; (try simp -implicitDefEqProofs only [kR_e, kQ_e, push_cast, Nat.reduceBEq, Nat.reduceAdd, Nat.reduceSub, Nat.reduceMul, Nat.reduceLT, Nat.reduceLeDiff, Nat.reduceEqDiff, reduceIte, Bool.not_true, Bool.not_false, true_and, and_true, Option.map_some, Option.bind_some, Int.toNat_natCast, c28r14, f8, hw3])
        (repeat first | (with_reducible intro _) | refine go_seq ?_ | refine go_skip ?_ | refine go_lab ?_ | refine go_blk ?_ | refine go_b ?_ | refine go_n ?_ | refine go_scp ?_)
        refine go_l ⟨⟨k + 1, u', zc', ⟨by omega, by rw [hnext]; exact hcs'⟩, by (try simp -implicitDefEqProofs only [kR_e, kQ_e, push_cast, Nat.reduceBEq, Nat.reduceAdd, Nat.reduceSub, Nat.reduceMul, Nat.reduceLT, Nat.reduceLeDiff, Nat.reduceEqDiff, reduceIte, Bool.not_true, Bool.not_false, true_and, and_true, Option.map_some, Option.bind_some, Int.toNat_natCast]), rfl, rfl, by rw [hnext]; exact hL'⟩, ?_⟩
        (try simp -implicitDefEqProofs only [kR_e, kQ_e, push_cast, Nat.reduceBEq, Nat.reduceAdd, Nat.reduceSub, Nat.reduceMul, Nat.reduceLT, Nat.reduceLeDiff, Nat.reduceEqDiff, reduceIte, Bool.not_true, Bool.not_false, true_and, and_true, Option.map_some, Option.bind_some, Int.toNat_natCast])
        omega
    · have hkl : k = a.l.length := by simp at ht; omega
      subst hkl
      refine go_exit ?_
      (try simp -implicitDefEqProofs only [kR_e, kQ_e, push_cast, Nat.reduceBEq, Nat.reduceAdd, Nat.reduceSub, Nat.reduceMul, Nat.reduceLT, Nat.reduceLeDiff, Nat.reduceEqDiff, reduceIte, Bool.not_true, Bool.not_false, true_and, and_true, Option.map_some, Option.bind_some, Int.toNat_natCast])
      rw [List.take_length] at hcs ⊢
      refine go_gx (gx_knowS (v := u) (.head _)) ?_
      rintro h' ⟨rfl, A2, c2, rfl, -, -⟩
      (repeat first | (with_reducible intro _) | refine go_seq ?_ | refine go_skip ?_ | refine go_lab ?_ | refine go_blk ?_ | refine go_b ?_ | refine go_n ?_ | refine go_scp ?_); refine go_r 78 79 (by decide) ?_; (try simp -implicitDefEqProofs only [kR_e, kQ_e, push_cast, Nat.reduceBEq, Nat.reduceAdd, Nat.reduceSub, Nat.reduceMul, Nat.reduceLT, Nat.reduceLeDiff, Nat.reduceEqDiff, reduceIte, Bool.not_true, Bool.not_false, true_and, and_true, Option.map_some, Option.bind_some, Int.toNat_natCast, c28r15])
      (repeat first | (with_reducible intro _) | refine go_seq ?_ | refine go_skip ?_ | refine go_lab ?_ | refine go_blk ?_ | refine go_b ?_ | refine go_n ?_ | refine go_scp ?_)
      refine go_gx (gx_slv_at [] _ (by decide) hcs) ?_
      rintro h' ⟨G2, rfl, hg2, hv⟩
      refine go_ret (retQ_v rfl ?_)
      rw [chain_ok hca hcb]
      exact ⟨_, rfl, TE.mk hmx hv⟩
end Go.Proofs.Ytbddbogdhkikoaa

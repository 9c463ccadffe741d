/- What functions of the chapter on translations compute: part 4 of a proof. No condition. -/
import Derived.Test.YtbddbogdhkikoaaW3
set_option linter.unusedSimpArgs false
set_option linter.unusedVariables false
namespace Go.Proofs.Ytbddbogdhkikoaa
open Go Go.Kx
theorem F14 : Fun Try.prog 14 79 v14 c14 o14 := Fun.mk' Try.func14 Try.ntmps14 (by kernel_rfl) (by kernel_rfl) s14 q14
theorem F15 : Fun Try.prog 15 83 v15 c15 o15 := Fun.mk' Try.func15 Try.ntmps15 (by kernel_rfl) (by kernel_rfl) s15 q15
theorem F30 : Fun Try.prog 30 10 v30 c30 o30 := Fun.mk' Try.func30 Try.ntmps30 (by kernel_rfl) (by kernel_rfl) s30 q30

theorem ldN_rowN {h : H} {g n c et sz m i k : Nat} {ys cs : List Value} (hm : Item.row (.slice (some ⟨g, 0, none⟩) n c) et sz m ys ∈ h.L) (hl : cs.length = k) (hv : ∀ o u, cs[o]? = some u → ys[i + o]? = some u) : LdN h (.pointer (some ⟨g, i, none⟩)) (some k) (.agg cs.toArray) :=
  ⟨_, cs, rfl, rfl, hl, fun j u hu => by rw [add_off]; exact .row hm (hv j u hu)⟩
/-- What is appended one at a time. -/
theorem app1 {P : Program} {h : H} {d : Nat} {l : List SI} {e : Env} {K : Env → H → Prop} {u : Value} {b : Nat} {zs : List Pr} {zc : List Value} {L1 L2 : List Kx.Item} {x : Pr} (hL : h.L = .row (.slice (some ⟨b, 0, none⟩) 1 1) 44 2 1 [.int .i64 x.1, .int .i64 x.2] :: L1 ++ .row u 44 2 zs.length zc :: L2)
    (hc : Cells EE 2 zs zc) (hz : zs.length ≤ 10000000) (h1 : I64 x.1) (h2 : I64 x.2)
    (hk : ∀ A' c' zc', Cells EE 2 (zs ++ [x]) zc' → kR P l d e K (.slice A' (zs ++ [x]).length c') ⟨h.G, .row (.slice (some ⟨b, 0, none⟩) 1 1) 44 2 1 [.int .i64 x.1, .int .i64 x.2] :: L1 ++ .row (.slice A' (zs ++ [x]).length c') 44 2 (zs ++ [x]).length zc' :: L2, h.D⟩) :
    apX P u (.slice (some ⟨b, 0, none⟩) 1 1) 44 2 16 d l e h K := by
  refine ⟨.row (.slice (some ⟨b, 0, none⟩) 1 1) 44 2 1 [.int .i64 x.1, .int .i64 x.2] :: L1, zs.length, zc, L2, 1, [.int .i64 x.1, .int .i64 x.2], .inl hL, srcH_row (h := h) (by rw [hL]; exact .head _) ?_ rfl, by unfold maxLen; omega, fun A' c' => ?_⟩
  · intro u hu; simp at hu; rcases hu with rfl | rfl <;> rfl
  · have := hk A' c' (zc ++ [.int .i64 x.1, .int .i64 x.2]) (hc.app (.one ⟨rfl, h1, h2⟩ rfl))
    simp only [List.length_append, List.length_cons, List.length_nil, Nat.zero_add] at this
    exact this
theorem TE.mk {G : Nat → Option Obj} {n : Int} {l : List Pr} {v : Value} (hn : I64 n) (h : SlV G EE 2 v l) : TE G ⟨n, l⟩ [.int .i64 n, v] := by
  obtain ⟨A, c, rfl, h1, h2, h3⟩ := h
  exact ⟨A, c, rfl, ⟨h1, h2, h3⟩, hn⟩

theorem Add_ok (t : Trans) (cs : List Value) (a b : Int) (ha : I64 a) (hb : I64 b) (G : Nat → Option Obj) (ht : TE G t cs) : FnD Try.prog 14 #[.agg cs.toArray, .int .i64 a, .int .i64 b] G (fun G' r => RetT (addM t a b).1 (addM t a b).2 G' r) := by
  have ht0 := ht
  obtain ⟨A, c, rfl, ⟨hc, hm, hA⟩, hev⟩ := ht
  refine F14.fnD (by simp) (go_of ?_)
  unfold c14
  have hzero : ∀ (code : Int) (e : Env) (L : List Kx.Item), addM t a b = (⟨0, []⟩, code) → e 7 = .int .i64 code → getR 6 L = some [.int .i64 0, .slice none 0 0] → retQ o14 (fun v h => RetT (addM t a b).1 (addM t a b).2 h.G v) .ret e ⟨G, L, []⟩ := fun code e L h1 h2 h3 => by
    refine retQ_v (out := [.agg #[.int .i64 0, .slice none 0 0], .int .i64 code]) ?_ ?_
    · simp only [resV, o14, h2, h3]; rfl
    · rw [h1]; exact ⟨_, rfl, TE.zero _ 0 i64_0⟩
  (repeat first | (with_reducible intro _) | refine go_seq ?_ | refine go_skip ?_ | refine go_lab ?_ | refine go_blk ?_ | refine go_b ?_ | refine go_n ?_ | refine go_scp ?_); refine go_r 0 0 (by decide) ?_; (try simp -implicitDefEqProofs only [kR_e, kQ_e, push_cast, Nat.reduceBEq, Nat.reduceAdd, Nat.reduceSub, Nat.reduceMul, Nat.reduceLT, Nat.reduceLeDiff, Nat.reduceEqDiff, reduceIte, Bool.not_true, Bool.not_false, true_and, and_true, Option.map_some, Option.bind_some, Int.toNat_natCast, c14r0])
  (repeat first | (with_reducible intro _) | refine go_seq ?_ | refine go_skip ?_ | refine go_lab ?_ | refine go_blk ?_ | refine go_b ?_ | refine go_n ?_ | refine go_scp ?_); refine go_r 12 14 (by decide) ?_; (try simp -implicitDefEqProofs only [kR_e, kQ_e, push_cast, Nat.reduceBEq, Nat.reduceAdd, Nat.reduceSub, Nat.reduceMul, Nat.reduceLT, Nat.reduceLeDiff, Nat.reduceEqDiff, reduceIte, Bool.not_true, Bool.not_false, true_and, and_true, Option.map_some, Option.bind_some, Int.toNat_natCast, c14r1])
  refine (Check_ok _ _ G ht0 _ _).mono ?_; rintro _ _ ⟨rfl, rfl⟩; (try simp -implicitDefEqProofs only [kR_e, kQ_e, push_cast, Nat.reduceBEq, Nat.reduceAdd, Nat.reduceSub, Nat.reduceMul, Nat.reduceLT, Nat.reduceLeDiff, Nat.reduceEqDiff, reduceIte, Bool.not_true, Bool.not_false, true_and, and_true, Option.map_some, Option.bind_some, Int.toNat_natCast])
  (repeat first | (with_reducible intro _) | refine go_seq ?_ | refine go_skip ?_ | refine go_lab ?_ | refine go_blk ?_ | refine go_b ?_ | refine go_n ?_ | refine go_scp ?_); refine go_r 14 15 (by decide) ?_; (try simp -implicitDefEqProofs only [kR_e, kQ_e, push_cast, Nat.reduceBEq, Nat.reduceAdd, Nat.reduceSub, Nat.reduceMul, Nat.reduceLT, Nat.reduceLeDiff, Nat.reduceEqDiff, reduceIte, Bool.not_true, Bool.not_false, true_and, and_true, Option.map_some, Option.bind_some, Int.toNat_natCast, c14r2])
  (repeat first | (with_reducible intro _) | refine go_seq ?_ | refine go_skip ?_ | refine go_lab ?_ | refine go_blk ?_ | refine go_b ?_ | refine go_n ?_ | refine go_scp ?_); refine go_c ?_; (try simp -implicitDefEqProofs only [kR_e, kQ_e, push_cast, Nat.reduceBEq, Nat.reduceAdd, Nat.reduceSub, Nat.reduceMul, Nat.reduceLT, Nat.reduceLeDiff, Nat.reduceEqDiff, reduceIte, Bool.not_true, Bool.not_false, true_and, and_true, Option.map_some, Option.bind_some, Int.toNat_natCast])
  refine gb (fun h1 => ?_) (fun h1 => ?_)
  · have h1 : chkT t ≠ 0 := by simpa using h1
    (repeat first | (with_reducible intro _) | refine go_seq ?_ | refine go_skip ?_ | refine go_lab ?_ | refine go_blk ?_ | refine go_b ?_ | refine go_n ?_ | refine go_scp ?_); refine go_r 16 18 (by decide) ?_; (try simp -implicitDefEqProofs only [kR_e, kQ_e, push_cast, Nat.reduceBEq, Nat.reduceAdd, Nat.reduceSub, Nat.reduceMul, Nat.reduceLT, Nat.reduceLeDiff, Nat.reduceEqDiff, reduceIte, Bool.not_true, Bool.not_false, true_and, and_true, Option.map_some, Option.bind_some, Int.toNat_natCast, c14r3])
    (repeat first | (with_reducible intro _) | refine go_seq ?_ | refine go_skip ?_ | refine go_lab ?_ | refine go_blk ?_ | refine go_b ?_ | refine go_n ?_ | refine go_scp ?_)
    exact go_ret (hzero (chkT t) _ _ (by rw [addM, if_pos h1]) (by (try simp -implicitDefEqProofs only [kR_e, kQ_e, push_cast, Nat.reduceBEq, Nat.reduceAdd, Nat.reduceSub, Nat.reduceMul, Nat.reduceLT, Nat.reduceLeDiff, Nat.reduceEqDiff, reduceIte, Bool.not_true, Bool.not_false, true_and, and_true, Option.map_some, Option.bind_some, Int.toNat_natCast])) (by (try simp -implicitDefEqProofs only [kR_e, kQ_e, push_cast, Nat.reduceBEq, Nat.reduceAdd, Nat.reduceSub, Nat.reduceMul, Nat.reduceLT, Nat.reduceLeDiff, Nat.reduceEqDiff, reduceIte, Bool.not_true, Bool.not_false, true_and, and_true, Option.map_some, Option.bind_some, Int.toNat_natCast])))
  have h1 : chkT t = 0 := by simpa using h1
  obtain ⟨hl, hg, hevo⟩ := (chk0_iff t).1 h1
  (repeat first | (with_reducible intro _) | refine go_seq ?_ | refine go_skip ?_ | refine go_lab ?_ | refine go_blk ?_ | refine go_b ?_ | refine go_n ?_ | refine go_scp ?_); refine go_r 18 22 (by decide) ?_; (try simp -implicitDefEqProofs only [kR_e, kQ_e, push_cast, Nat.reduceBEq, Nat.reduceAdd, Nat.reduceSub, Nat.reduceMul, Nat.reduceLT, Nat.reduceLeDiff, Nat.reduceEqDiff, reduceIte, Bool.not_true, Bool.not_false, true_and, and_true, Option.map_some, Option.bind_some, Int.toNat_natCast, c14r4])
  intro bk hbk
  (try simp -implicitDefEqProofs only [kR_e, kQ_e, push_cast, Nat.reduceBEq, Nat.reduceAdd, Nat.reduceSub, Nat.reduceMul, Nat.reduceLT, Nat.reduceLeDiff, Nat.reduceEqDiff, reduceIte, Bool.not_true, Bool.not_false, true_and, and_true, Option.map_some, Option.bind_some, Int.toNat_natCast])
  refine (off2_ok _ _ ha hb bk _ _ _).mono ?_; rintro _ _ ⟨rfl, rfl⟩; (try simp -implicitDefEqProofs only [kR_e, kQ_e, push_cast, Nat.reduceBEq, Nat.reduceAdd, Nat.reduceSub, Nat.reduceMul, Nat.reduceLT, Nat.reduceLeDiff, Nat.reduceEqDiff, reduceIte, Bool.not_true, Bool.not_false, true_and, and_true, Option.map_some, Option.bind_some, Int.toNat_natCast])
  (repeat first | (with_reducible intro _) | refine go_seq ?_ | refine go_skip ?_ | refine go_lab ?_ | refine go_blk ?_ | refine go_b ?_ | refine go_n ?_ | refine go_scp ?_); refine go_c ?_; (try simp -implicitDefEqProofs only [kR_e, kQ_e, push_cast, Nat.reduceBEq, Nat.reduceAdd, Nat.reduceSub, Nat.reduceMul, Nat.reduceLT, Nat.reduceLeDiff, Nat.reduceEqDiff, reduceIte, Bool.not_true, Bool.not_false, true_and, and_true, Option.map_some, Option.bind_some, Int.toNat_natCast])
  refine gb (fun h2 => ?_) (fun h2 => ?_)
  · (repeat first | (with_reducible intro _) | refine go_seq ?_ | refine go_skip ?_ | refine go_lab ?_ | refine go_blk ?_ | refine go_b ?_ | refine go_n ?_ | refine go_scp ?_); refine go_r 23 24 (by decide) ?_; (try simp -implicitDefEqProofs only [kR_e, kQ_e, push_cast, Nat.reduceBEq, Nat.reduceAdd, Nat.reduceSub, Nat.reduceMul, Nat.reduceLT, Nat.reduceLeDiff, Nat.reduceEqDiff, reduceIte, Bool.not_true, Bool.not_false, true_and, and_true, Option.map_some, Option.bind_some, Int.toNat_natCast, c14r5])
    (repeat first | (with_reducible intro _) | refine go_seq ?_ | refine go_skip ?_ | refine go_lab ?_ | refine go_blk ?_ | refine go_b ?_ | refine go_n ?_ | refine go_scp ?_)
    refine go_ret (hzero 1 _ _ ?_ (by (try simp -implicitDefEqProofs only [kR_e, kQ_e, push_cast, Nat.reduceBEq, Nat.reduceAdd, Nat.reduceSub, Nat.reduceMul, Nat.reduceLT, Nat.reduceLeDiff, Nat.reduceEqDiff, reduceIte, Bool.not_true, Bool.not_false, true_and, and_true, Option.map_some, Option.bind_some, Int.toNat_natCast])) (by (try simp -implicitDefEqProofs only [kR_e, kQ_e, push_cast, Nat.reduceBEq, Nat.reduceAdd, Nat.reduceSub, Nat.reduceMul, Nat.reduceLT, Nat.reduceLeDiff, Nat.reduceEqDiff, reduceIte, Bool.not_true, Bool.not_false, true_and, and_true, Option.map_some, Option.bind_some, Int.toNat_natCast])))
    rw [addM, if_neg (by simp [h1]), if_pos]
    intro h9
    simp [h9] at h2
  have hin : inO a = true ∧ inO b = true := by simpa using h2
  have hadd : addM t a b = match t.l.getLast? with
    | none => (⟨t.every, t.l ++ [(a, b)]⟩, 0)
    | some p => if a < p.1 ∨ b < p.2 then (⟨0, []⟩, 71) else if a - p.1 < t.every ∨ b = p.2 then (t, 0) else if 4096 ≤ t.l.length then (⟨0, []⟩, 2) else (⟨t.every, t.l ++ [(a, b)]⟩, 0) := by
    rw [addM, if_neg (by simp [h1]), if_neg (by simp [hin])]
    cases t.l.getLast? <;> rfl
  (repeat first | (with_reducible intro _) | refine go_seq ?_ | refine go_skip ?_ | refine go_lab ?_ | refine go_blk ?_ | refine go_b ?_ | refine go_n ?_ | refine go_scp ?_); refine go_r 25 27 (by decide) ?_; (try simp -implicitDefEqProofs only [kR_e, kQ_e, push_cast, Nat.reduceBEq, Nat.reduceAdd, Nat.reduceSub, Nat.reduceMul, Nat.reduceLT, Nat.reduceLeDiff, Nat.reduceEqDiff, reduceIte, Bool.not_true, Bool.not_false, true_and, and_true, Option.map_some, Option.bind_some, Int.toNat_natCast, c14r6])
  refine apX_v (.inr ⟨⟨none, rfl⟩, rfl, rfl, rfl, rfl⟩) ⟨A, c, rfl, hc, hm, hA⟩ rfl EE1 (by unfold maxLen; omega) fun ys A' c' hys => ?_
  simp only [Nat.zero_add]
  (try simp -implicitDefEqProofs only [kR_e, kQ_e, push_cast, Nat.reduceBEq, Nat.reduceAdd, Nat.reduceSub, Nat.reduceMul, Nat.reduceLT, Nat.reduceLeDiff, Nat.reduceEqDiff, reduceIte, Bool.not_true, Bool.not_false, true_and, and_true, Option.map_some, Option.bind_some, Int.toNat_natCast])
  have hend : ∀ (e : Env), addM t a b = (⟨t.every, t.l ++ [(a, b)]⟩, 0) → e 9 = .slice A' t.l.length c' → e 1 = .int .i64 a → e 2 = .int .i64 b →
      go none Try.prog 79 v14.1 v14.2 (retQ o14 fun v h => RetT (addM t a b).1 (addM t a b).2 h.G v) [Td.s ((SC.rgY c14r16 c14r17).seq .ret)] e ⟨G, [.row (.slice A' t.l.length c') 44 2 t.l.length ys, .reg 6 [.int .i64 0, .slice none 0 0], .reg 3 [.int .i64 t.every, .slice A t.l.length c]], []⟩ := fun e h3 e9 e1 e2 => by
    (repeat first | (with_reducible intro _) | refine go_seq ?_ | refine go_skip ?_ | refine go_lab ?_ | refine go_blk ?_ | refine go_b ?_ | refine go_n ?_ | refine go_scp ?_); refine go_y _ (.cons _ (.cons _ (List.Sublist.refl _))) (by decide) ?_; (try simp -implicitDefEqProofs only [kR_e, kQ_e, push_cast, Nat.reduceBEq, Nat.reduceAdd, Nat.reduceSub, Nat.reduceMul, Nat.reduceLT, Nat.reduceLeDiff, Nat.reduceEqDiff, reduceIte, Bool.not_true, Bool.not_false, true_and, and_true, Option.map_some, Option.bind_some, Int.toNat_natCast, c14r16, c14r17, e9, e1, e2])
    intro b3 hb3
    refine ⟨grow_L (fun _ _ h => h) (.cons _ (.cons _ (.cons _ (List.Sublist.refl _)))), ?_⟩
    (try simp -implicitDefEqProofs only [kR_e, kQ_e, push_cast, Nat.reduceBEq, Nat.reduceAdd, Nat.reduceSub, Nat.reduceMul, Nat.reduceLT, Nat.reduceLeDiff, Nat.reduceEqDiff, reduceIte, Bool.not_true, Bool.not_false, true_and, and_true, Option.map_some, Option.bind_some, Int.toNat_natCast])
    refine app1 (L1 := []) (L2 := [_, _]) (x := (a, b)) rfl hys (by omega) ha hb fun A2 c2 zc' hzc => ?_
    (try simp -implicitDefEqProofs only [kR_e, kQ_e, push_cast, Nat.reduceBEq, Nat.reduceAdd, Nat.reduceSub, Nat.reduceMul, Nat.reduceLT, Nat.reduceLeDiff, Nat.reduceEqDiff, reduceIte, Bool.not_true, Bool.not_false, true_and, and_true, Option.map_some, Option.bind_some, Int.toNat_natCast])
    refine ⟨grow_L (fun _ _ h => h) (.cons _ (.cons _ (.cons _ (List.Sublist.refl _)))), ?_⟩
    (try simp -implicitDefEqProofs only [kR_e, kQ_e, push_cast, Nat.reduceBEq, Nat.reduceAdd, Nat.reduceSub, Nat.reduceMul, Nat.reduceLT, Nat.reduceLeDiff, Nat.reduceEqDiff, reduceIte, Bool.not_true, Bool.not_false, true_and, and_true, Option.map_some, Option.bind_some, Int.toNat_natCast])
    (repeat first | (with_reducible intro _) | refine go_seq ?_ | refine go_skip ?_ | refine go_lab ?_ | refine go_blk ?_ | refine go_b ?_ | refine go_n ?_ | refine go_scp ?_)
    refine go_gx (gx_slv_at [_] _ (by decide) hzc) ?_
    rintro h' ⟨G2, rfl, hg2, hv⟩
    refine go_ret (retQ_v rfl ?_)
    rw [h3]
    exact ⟨_, rfl, TE.mk hev hv⟩
  (repeat first | (with_reducible intro _) | refine go_seq ?_ | refine go_skip ?_ | refine go_lab ?_ | refine go_blk ?_ | refine go_b ?_ | refine go_n ?_ | refine go_scp ?_); refine go_r 27 29 (by decide) ?_; (try simp -implicitDefEqProofs only [kR_e, kQ_e, push_cast, Nat.reduceBEq, Nat.reduceAdd, Nat.reduceSub, Nat.reduceMul, Nat.reduceLT, Nat.reduceLeDiff, Nat.reduceEqDiff, reduceIte, Bool.not_true, Bool.not_false, true_and, and_true, Option.map_some, Option.bind_some, Int.toNat_natCast, c14r7])
  (repeat first | (with_reducible intro _) | refine go_seq ?_ | refine go_skip ?_ | refine go_lab ?_ | refine go_blk ?_ | refine go_b ?_ | refine go_n ?_ | refine go_scp ?_); refine go_r 29 30 (by decide) ?_; (try simp -implicitDefEqProofs only [kR_e, kQ_e, push_cast, Nat.reduceBEq, Nat.reduceAdd, Nat.reduceSub, Nat.reduceMul, Nat.reduceLT, Nat.reduceLeDiff, Nat.reduceEqDiff, reduceIte, Bool.not_true, Bool.not_false, true_and, and_true, Option.map_some, Option.bind_some, Int.toNat_natCast, c14r8])
  (repeat first | (with_reducible intro _) | refine go_seq ?_ | refine go_skip ?_ | refine go_lab ?_ | refine go_blk ?_ | refine go_b ?_ | refine go_n ?_ | refine go_scp ?_); refine go_c ?_; (try simp -implicitDefEqProofs only [kR_e, kQ_e, push_cast, Nat.reduceBEq, Nat.reduceAdd, Nat.reduceSub, Nat.reduceMul, Nat.reduceLT, Nat.reduceLeDiff, Nat.reduceEqDiff, reduceIte, Bool.not_true, Bool.not_false, true_and, and_true, Option.map_some, Option.bind_some, Int.toNat_natCast])
  refine gb (fun h3 => ?_) (fun h3 => ?_)
  · have hl0 : 0 < t.l.length := by simp at h3; omega
    obtain ⟨p, hp⟩ : ∃ p, t.l[t.l.length - 1]? = some p := ⟨t.l[t.l.length - 1], List.getElem?_eq_getElem (by omega)⟩
    have hlast : t.l.getLast? = some p := by rw [List.getLast?_eq_getElem?]; exact hp
    rw [hlast] at hadd
    dsimp only at hadd
    (repeat first | (with_reducible intro _) | refine go_seq ?_ | refine go_skip ?_ | refine go_lab ?_ | refine go_blk ?_ | refine go_b ?_ | refine go_n ?_ | refine go_scp ?_)
    refine go_gx (gx_know (v := .slice A' t.l.length c') (.head _) hl0) ?_
    rintro h' ⟨rfl, g, cu, hAc, hc1, hc2⟩
    cases hAc
    obtain ⟨cs, ⟨rfl, ip1, ip2⟩, hcl, hld⟩ := hys.get hp
    (repeat first | (with_reducible intro _) | refine go_seq ?_ | refine go_skip ?_ | refine go_lab ?_ | refine go_blk ?_ | refine go_b ?_ | refine go_n ?_ | refine go_scp ?_); refine go_r 31 36 (by decide) ?_; (try simp -implicitDefEqProofs only [kR_e, kQ_e, push_cast, Nat.reduceBEq, Nat.reduceAdd, Nat.reduceSub, Nat.reduceMul, Nat.reduceLT, Nat.reduceLeDiff, Nat.reduceEqDiff, reduceIte, Bool.not_true, Bool.not_false, true_and, and_true, Option.map_some, Option.bind_some, Int.toNat_natCast, c14r9, len_i t.l.length hl0 (by omega)])
    refine ⟨by omega, _, rfl, ?_⟩
    rw [add_off]
    refine ⟨_, ldN_rowN (.head _) hcl (fun o u hu => by simpa using hld o u hu), ?_⟩
    (try simp -implicitDefEqProofs only [kR_e, kQ_e, push_cast, Nat.reduceBEq, Nat.reduceAdd, Nat.reduceSub, Nat.reduceMul, Nat.reduceLT, Nat.reduceLeDiff, Nat.reduceEqDiff, reduceIte, Bool.not_true, Bool.not_false, true_and, and_true, Option.map_some, Option.bind_some, Int.toNat_natCast])
    have hps : inO p.1 = true ∧ inO p.2 = true := by have := hg.1 p (List.mem_of_getLast? hlast); simpa [inP] using this
    have hw : IntKind.i64.wrap (a - p.1) = a - p.1 := by simp [inO] at hps hin; rw [w64_id] <;> omega
    (repeat first | (with_reducible intro _) | refine go_seq ?_ | refine go_skip ?_ | refine go_lab ?_ | refine go_blk ?_ | refine go_b ?_ | refine go_n ?_ | refine go_scp ?_); refine go_r 37 47 (by decide) ?_; (try simp -implicitDefEqProofs only [kR_e, kQ_e, push_cast, Nat.reduceBEq, Nat.reduceAdd, Nat.reduceSub, Nat.reduceMul, Nat.reduceLT, Nat.reduceLeDiff, Nat.reduceEqDiff, reduceIte, Bool.not_true, Bool.not_false, true_and, and_true, Option.map_some, Option.bind_some, Int.toNat_natCast, c14r10])
    have herr : ∀ (fr : List Td) (e : Env) (L : List Kx.Item), (a < p.1 ∨ b < p.2) → go none Try.prog 79 v14.1 v14.2 (retQ o14 fun v h => RetT (addM t a b).1 (addM t a b).2 h.G v) (Td.s ((SC.reg false c14r11).seq .ret) :: fr) e ⟨G, [.reg 11 [.int .i64 p.1, .int .i64 p.2], .row (.slice (some ⟨g, 0, none⟩) t.l.length c') 44 2 t.l.length ys, .row (.slice (some ⟨bk, 0, none⟩) 2 2) 3 1 2 [.int .i64 a, .int .i64 b], .reg 6 [.int .i64 0, .slice none 0 0], .reg 3 [.int .i64 t.every, .slice A t.l.length c]], []⟩ := fun fr e L h4 => by
      (repeat first | (with_reducible intro _) | refine go_seq ?_ | refine go_skip ?_ | refine go_lab ?_ | refine go_blk ?_ | refine go_b ?_ | refine go_n ?_ | refine go_scp ?_); refine go_r 47 48 (by decide) ?_; (try simp -implicitDefEqProofs only [kR_e, kQ_e, push_cast, Nat.reduceBEq, Nat.reduceAdd, Nat.reduceSub, Nat.reduceMul, Nat.reduceLT, Nat.reduceLeDiff, Nat.reduceEqDiff, reduceIte, Bool.not_true, Bool.not_false, true_and, and_true, Option.map_some, Option.bind_some, Int.toNat_natCast, c14r11])
      (repeat first | (with_reducible intro _) | refine go_seq ?_ | refine go_skip ?_ | refine go_lab ?_ | refine go_blk ?_ | refine go_b ?_ | refine go_n ?_ | refine go_scp ?_)
      exact go_ret (hzero 71 _ _ (by rw [hadd, if_pos h4]) (by (try simp -implicitDefEqProofs only [kR_e, kQ_e, push_cast, Nat.reduceBEq, Nat.reduceAdd, Nat.reduceSub, Nat.reduceMul, Nat.reduceLT, Nat.reduceLeDiff, Nat.reduceEqDiff, reduceIte, Bool.not_true, Bool.not_false, true_and, and_true, Option.map_some, Option.bind_some, Int.toNat_natCast])) (by (try simp -implicitDefEqProofs only [kR_e, kQ_e, push_cast, Nat.reduceBEq, Nat.reduceAdd, Nat.reduceSub, Nat.reduceMul, Nat.reduceLT, Nat.reduceLeDiff, Nat.reduceEqDiff, reduceIte, Bool.not_true, Bool.not_false, true_and, and_true, Option.map_some, Option.bind_some, Int.toNat_natCast])))
    refine gd (fun h4 => ?_) (fun h4 => ?_)
    · (try simp -implicitDefEqProofs only [kR_e, kQ_e, push_cast, Nat.reduceBEq, Nat.reduceAdd, Nat.reduceSub, Nat.reduceMul, Nat.reduceLT, Nat.reduceLeDiff, Nat.reduceEqDiff, reduceIte, Bool.not_true, Bool.not_false, true_and, and_true, Option.map_some, Option.bind_some, Int.toNat_natCast])
      (repeat first | (with_reducible intro _) | refine go_seq ?_ | refine go_skip ?_ | refine go_lab ?_ | refine go_blk ?_ | refine go_b ?_ | refine go_n ?_ | refine go_scp ?_); refine go_c ?_; (try simp -implicitDefEqProofs only [kR_e, kQ_e, push_cast, Nat.reduceBEq, Nat.reduceAdd, Nat.reduceSub, Nat.reduceMul, Nat.reduceLT, Nat.reduceLeDiff, Nat.reduceEqDiff, reduceIte, Bool.not_true, Bool.not_false, true_and, and_true, Option.map_some, Option.bind_some, Int.toNat_natCast])
      exact herr _ _ [] (.inl (by simpa using h4))
    (try simp -implicitDefEqProofs only [kR_e, kQ_e, push_cast, Nat.reduceBEq, Nat.reduceAdd, Nat.reduceSub, Nat.reduceMul, Nat.reduceLT, Nat.reduceLeDiff, Nat.reduceEqDiff, reduceIte, Bool.not_true, Bool.not_false, true_and, and_true, Option.map_some, Option.bind_some, Int.toNat_natCast])
    (repeat first | (with_reducible intro _) | refine go_seq ?_ | refine go_skip ?_ | refine go_lab ?_ | refine go_blk ?_ | refine go_b ?_ | refine go_n ?_ | refine go_scp ?_); refine go_c ?_; (try simp -implicitDefEqProofs only [kR_e, kQ_e, push_cast, Nat.reduceBEq, Nat.reduceAdd, Nat.reduceSub, Nat.reduceMul, Nat.reduceLT, Nat.reduceLeDiff, Nat.reduceEqDiff, reduceIte, Bool.not_true, Bool.not_false, true_and, and_true, Option.map_some, Option.bind_some, Int.toNat_natCast])
    refine gb (fun h5 => ?_) (fun h5 => ?_)
    · exact herr _ _ [] (.inr (by simpa using h5))
    rw [if_neg (by simp at h4 h5; omega)] at hadd
    have hsame : ∀ (fr : List Td) (e : Env) (L : List Kx.Item), (a - p.1 < t.every ∨ b = p.2) → e 9 = .slice (some ⟨g, 0, none⟩) t.l.length c' → go none Try.prog 79 v14.1 v14.2 (retQ o14 fun v h => RetT (addM t a b).1 (addM t a b).2 h.G v) (Td.s ((SC.reg false c14r13).seq .ret) :: fr) e ⟨G, [.reg 11 [.int .i64 p.1, .int .i64 p.2], .row (.slice (some ⟨g, 0, none⟩) t.l.length c') 44 2 t.l.length ys, .row (.slice (some ⟨bk, 0, none⟩) 2 2) 3 1 2 [.int .i64 a, .int .i64 b], .reg 6 [.int .i64 0, .slice none 0 0], .reg 3 [.int .i64 t.every, .slice A t.l.length c]], []⟩ := fun fr e L h6 e9 => by
      (repeat first | (with_reducible intro _) | refine go_seq ?_ | refine go_skip ?_ | refine go_lab ?_ | refine go_blk ?_ | refine go_b ?_ | refine go_n ?_ | refine go_scp ?_); refine go_r 63 66 (by decide) ?_; (try simp -implicitDefEqProofs only [kR_e, kQ_e, push_cast, Nat.reduceBEq, Nat.reduceAdd, Nat.reduceSub, Nat.reduceMul, Nat.reduceLT, Nat.reduceLeDiff, Nat.reduceEqDiff, reduceIte, Bool.not_true, Bool.not_false, true_and, and_true, Option.map_some, Option.bind_some, Int.toNat_natCast, c14r13, e9])
      (repeat first | (with_reducible intro _) | refine go_seq ?_ | refine go_skip ?_ | refine go_lab ?_ | refine go_blk ?_ | refine go_b ?_ | refine go_n ?_ | refine go_scp ?_)
      refine go_gx (gx_slv_at [_] _ (by decide) hys) ?_
      rintro h' ⟨G2, rfl, hg2, hv⟩
      refine go_ret (retQ_v rfl ?_)
      rw [hadd, if_pos h6]
      exact ⟨_, rfl, TE.mk hev hv⟩
    (repeat first | (with_reducible intro _) | refine go_seq ?_ | refine go_skip ?_ | refine go_lab ?_ | refine go_blk ?_ | refine go_b ?_ | refine go_n ?_ | refine go_scp ?_); refine go_r 49 62 (by decide) ?_; (try simp -implicitDefEqProofs only [kR_e, kQ_e, push_cast, Nat.reduceBEq, Nat.reduceAdd, Nat.reduceSub, Nat.reduceMul, Nat.reduceLT, Nat.reduceLeDiff, Nat.reduceEqDiff, reduceIte, Bool.not_true, Bool.not_false, true_and, and_true, Option.map_some, Option.bind_some, Int.toNat_natCast, c14r12, hw])
    refine gd (fun h6 => ?_) (fun h6 => ?_)
    · (try simp -implicitDefEqProofs only [kR_e, kQ_e, push_cast, Nat.reduceBEq, Nat.reduceAdd, Nat.reduceSub, Nat.reduceMul, Nat.reduceLT, Nat.reduceLeDiff, Nat.reduceEqDiff, reduceIte, Bool.not_true, Bool.not_false, true_and, and_true, Option.map_some, Option.bind_some, Int.toNat_natCast])
      (repeat first | (with_reducible intro _) | refine go_seq ?_ | refine go_skip ?_ | refine go_lab ?_ | refine go_blk ?_ | refine go_b ?_ | refine go_n ?_ | refine go_scp ?_); refine go_c ?_; (try simp -implicitDefEqProofs only [kR_e, kQ_e, push_cast, Nat.reduceBEq, Nat.reduceAdd, Nat.reduceSub, Nat.reduceMul, Nat.reduceLT, Nat.reduceLeDiff, Nat.reduceEqDiff, reduceIte, Bool.not_true, Bool.not_false, true_and, and_true, Option.map_some, Option.bind_some, Int.toNat_natCast])
      exact hsame _ _ [] (.inl (by simpa using h6)) (by (try simp -implicitDefEqProofs only [kR_e, kQ_e, push_cast, Nat.reduceBEq, Nat.reduceAdd, Nat.reduceSub, Nat.reduceMul, Nat.reduceLT, Nat.reduceLeDiff, Nat.reduceEqDiff, reduceIte, Bool.not_true, Bool.not_false, true_and, and_true, Option.map_some, Option.bind_some, Int.toNat_natCast]))
    (try simp -implicitDefEqProofs only [kR_e, kQ_e, push_cast, Nat.reduceBEq, Nat.reduceAdd, Nat.reduceSub, Nat.reduceMul, Nat.reduceLT, Nat.reduceLeDiff, Nat.reduceEqDiff, reduceIte, Bool.not_true, Bool.not_false, true_and, and_true, Option.map_some, Option.bind_some, Int.toNat_natCast])
    (repeat first | (with_reducible intro _) | refine go_seq ?_ | refine go_skip ?_ | refine go_lab ?_ | refine go_blk ?_ | refine go_b ?_ | refine go_n ?_ | refine go_scp ?_); refine go_c ?_; (try simp -implicitDefEqProofs only [kR_e, kQ_e, push_cast, Nat.reduceBEq, Nat.reduceAdd, Nat.reduceSub, Nat.reduceMul, Nat.reduceLT, Nat.reduceLeDiff, Nat.reduceEqDiff, reduceIte, Bool.not_true, Bool.not_false, true_and, and_true, Option.map_some, Option.bind_some, Int.toNat_natCast])
    refine gb (fun h7 => ?_) (fun h7 => ?_)
    · exact hsame _ _ [] (.inr (by simpa using h7)) (by (try simp -implicitDefEqProofs only [kR_e, kQ_e, push_cast, Nat.reduceBEq, Nat.reduceAdd, Nat.reduceSub, Nat.reduceMul, Nat.reduceLT, Nat.reduceLeDiff, Nat.reduceEqDiff, reduceIte, Bool.not_true, Bool.not_false, true_and, and_true, Option.map_some, Option.bind_some, Int.toNat_natCast]))
    rw [if_neg (by simp at h6 h7; omega)] at hadd
    (repeat first | (with_reducible intro _) | refine go_seq ?_ | refine go_skip ?_ | refine go_lab ?_ | refine go_blk ?_ | refine go_b ?_ | refine go_n ?_ | refine go_scp ?_); refine go_r 67 69 (by decide) ?_; (try simp -implicitDefEqProofs only [kR_e, kQ_e, push_cast, Nat.reduceBEq, Nat.reduceAdd, Nat.reduceSub, Nat.reduceMul, Nat.reduceLT, Nat.reduceLeDiff, Nat.reduceEqDiff, reduceIte, Bool.not_true, Bool.not_false, true_and, and_true, Option.map_some, Option.bind_some, Int.toNat_natCast, c14r14])
    (repeat first | (with_reducible intro _) | refine go_seq ?_ | refine go_skip ?_ | refine go_lab ?_ | refine go_blk ?_ | refine go_b ?_ | refine go_n ?_ | refine go_scp ?_); refine go_c ?_; (try simp -implicitDefEqProofs only [kR_e, kQ_e, push_cast, Nat.reduceBEq, Nat.reduceAdd, Nat.reduceSub, Nat.reduceMul, Nat.reduceLT, Nat.reduceLeDiff, Nat.reduceEqDiff, reduceIte, Bool.not_true, Bool.not_false, true_and, and_true, Option.map_some, Option.bind_some, Int.toNat_natCast])
    refine gb (fun h8 => ?_) (fun h8 => ?_)
    · (repeat first | (with_reducible intro _) | refine go_seq ?_ | refine go_skip ?_ | refine go_lab ?_ | refine go_blk ?_ | refine go_b ?_ | refine go_n ?_ | refine go_scp ?_); refine go_r 69 70 (by decide) ?_; (try simp -implicitDefEqProofs only [kR_e, kQ_e, push_cast, Nat.reduceBEq, Nat.reduceAdd, Nat.reduceSub, Nat.reduceMul, Nat.reduceLT, Nat.reduceLeDiff, Nat.reduceEqDiff, reduceIte, Bool.not_true, Bool.not_false, true_and, and_true, Option.map_some, Option.bind_some, Int.toNat_natCast, c14r15])
      (repeat first | (with_reducible intro _) | refine go_seq ?_ | refine go_skip ?_ | refine go_lab ?_ | refine go_blk ?_ | refine go_b ?_ | refine go_n ?_ | refine go_scp ?_)
      exact go_ret (hzero 2 _ _ (by rw [hadd, if_pos (by simp at h8; omega)]) (by (try simp -implicitDefEqProofs only [kR_e, kQ_e, push_cast, Nat.reduceBEq, Nat.reduceAdd, Nat.reduceSub, Nat.reduceMul, Nat.reduceLT, Nat.reduceLeDiff, Nat.reduceEqDiff, reduceIte, Bool.not_true, Bool.not_false, true_and, and_true, Option.map_some, Option.bind_some, Int.toNat_natCast])) (by (try simp -implicitDefEqProofs only [kR_e, kQ_e, push_cast, Nat.reduceBEq, Nat.reduceAdd, Nat.reduceSub, Nat.reduceMul, Nat.reduceLT, Nat.reduceLeDiff, Nat.reduceEqDiff, reduceIte, Bool.not_true, Bool.not_false, true_and, and_true, Option.map_some, Option.bind_some, Int.toNat_natCast])))
    · rw [if_neg (by simp at h8; omega)] at hadd
      (repeat first | refine go_skip ?_ | refine go_b ?_)
      refine go_ghost (ghost_sub (L' := [.row (.slice (some ⟨g, 0, none⟩) t.l.length c') 44 2 t.l.length ys, .reg 6 [.int .i64 0, .slice none 0 0], .reg 3 [.int .i64 t.every, .slice A t.l.length c]]) (.cons _ (.cons_cons _ (.cons _ (List.Sublist.refl _))))) ?_
      exact hend _ hadd (by (try simp -implicitDefEqProofs only [kR_e, kQ_e, push_cast, Nat.reduceBEq, Nat.reduceAdd, Nat.reduceSub, Nat.reduceMul, Nat.reduceLT, Nat.reduceLeDiff, Nat.reduceEqDiff, reduceIte, Bool.not_true, Bool.not_false, true_and, and_true, Option.map_some, Option.bind_some, Int.toNat_natCast])) (by (try simp -implicitDefEqProofs only [kR_e, kQ_e, push_cast, Nat.reduceBEq, Nat.reduceAdd, Nat.reduceSub, Nat.reduceMul, Nat.reduceLT, Nat.reduceLeDiff, Nat.reduceEqDiff, reduceIte, Bool.not_true, Bool.not_false, true_and, and_true, Option.map_some, Option.bind_some, Int.toNat_natCast])) (by (try simp -implicitDefEqProofs only [kR_e, kQ_e, push_cast, Nat.reduceBEq, Nat.reduceAdd, Nat.reduceSub, Nat.reduceMul, Nat.reduceLT, Nat.reduceLeDiff, Nat.reduceEqDiff, reduceIte, Bool.not_true, Bool.not_false, true_and, and_true, Option.map_some, Option.bind_some, Int.toNat_natCast]))
  · have hl0 : t.l = [] := by simpa using h3
    (repeat first | refine go_skip ?_ | refine go_b ?_)
    refine go_ghost (ghost_sub (L' := [.row (.slice A' t.l.length c') 44 2 t.l.length ys, .reg 6 [.int .i64 0, .slice none 0 0], .reg 3 [.int .i64 t.every, .slice A t.l.length c]]) (.cons_cons _ (.cons _ (List.Sublist.refl _)))) ?_
    refine hend _ ?_ (by (try simp -implicitDefEqProofs only [kR_e, kQ_e, push_cast, Nat.reduceBEq, Nat.reduceAdd, Nat.reduceSub, Nat.reduceMul, Nat.reduceLT, Nat.reduceLeDiff, Nat.reduceEqDiff, reduceIte, Bool.not_true, Bool.not_false, true_and, and_true, Option.map_some, Option.bind_some, Int.toNat_natCast])) (by (try simp -implicitDefEqProofs only [kR_e, kQ_e, push_cast, Nat.reduceBEq, Nat.reduceAdd, Nat.reduceSub, Nat.reduceMul, Nat.reduceLT, Nat.reduceLeDiff, Nat.reduceEqDiff, reduceIte, Bool.not_true, Bool.not_false, true_and, and_true, Option.map_some, Option.bind_some, Int.toNat_natCast])) (by (try simp -implicitDefEqProofs only [kR_e, kQ_e, push_cast, Nat.reduceBEq, Nat.reduceAdd, Nat.reduceSub, Nat.reduceMul, Nat.reduceLT, Nat.reduceLeDiff, Nat.reduceEqDiff, reduceIte, Bool.not_true, Bool.not_false, true_and, and_true, Option.map_some, Option.bind_some, Int.toNat_natCast]))
    rw [hadd, hl0]
    rfl
end Go.Proofs.Ytbddbogdhkikoaa

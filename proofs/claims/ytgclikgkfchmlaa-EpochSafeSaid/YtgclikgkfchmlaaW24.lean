/- What the statements of the chapter on epochs compute, part 10 of a proof: the stage's. No condition. -/
import Derived.Test.YtgclikgkfchmlaaW23
set_option linter.unusedSimpArgs false
set_option linter.unusedVariables false
namespace Go.Proofs.Ytgclikgkfchmlaa
open Go Go.Kx
theorem F10 : Fun Try.prog 10 120 v10 c10 o10 := Fun.mk' Try.func10 Try.ntmps10 (by kernel_rfl) (by kernel_rfl) s10 q10

theorem UE1 : ∀ (x : Int) cs, UE x cs → ∀ u ∈ cs, u.oneCell' = true := fun x cs h u hu => by
  rw [h.1] at hu
  simp at hu
  subst hu
  rfl
theorem inc_both {l xs : List Int} {fr : Int} (hl : l.length ≤ 30) (hx : xs.length ≤ 31) (hfr : lev 1 1 l < fr ∧ fr ≤ lev 1 1 l + 2) : Inc (logM 0 1 1 l ++ logM l.length fr 2 xs) := by
  have hn1 := lev_ge 1 1 (by omega) l l.length
  have hn2 := lev_le 1 1 (by omega) (by omega) l l.length
  rw [List.take_length] at hn1 hn2
  have key : ∀ (i : Nat) (x : LB), (logM 0 1 1 l ++ logM l.length fr 2 xs)[i]? = some x → (i < l.length ∧ x = (0 + (i : Int), lev 1 1 (l.take (i + 1)))) ∨ (l.length ≤ i ∧ i - l.length < xs.length ∧ x = ((l.length : Int) + ((i - l.length : Nat) : Int), lev fr 2 (xs.take (i - l.length + 1)))) := fun i x h => by
    by_cases hi : i < l.length
    · rw [List.getElem?_append_left (by rw [logM_len]; exact hi)] at h
      exact .inl (logM_at h)
    · rw [List.getElem?_append_right (by rw [logM_len]; omega), logM_len] at h
      exact .inr ⟨by omega, logM_at h⟩
  refine ⟨by simp [logM_len]; omega, fun i x h => ?_⟩
  rcases key i x h with ⟨h1, rfl⟩ | ⟨h0, h1, rfl⟩
  · have e1 := lev_ge 1 1 (by omega) l (i + 1)
    have e2 := lev_le 1 1 (by omega) (by omega) l (i + 1)
    refine ⟨by dsimp only; omega, ⟨by dsimp only; omega, by dsimp only; omega⟩, fun j y hj hy => ?_⟩
    rcases key j y hy with ⟨h2, rfl⟩ | ⟨h3, h2, rfl⟩
    · exact lev_mono 1 1 (by omega) l _ _ (by omega)
    · have e3 := lev_mono 1 1 (by omega) l (i + 1) l.length (by omega)
      rw [List.take_length] at e3
      have e4 := lev_ge fr 2 (by omega) xs (j - l.length + 1)
      dsimp only
      omega
  · have e1 := lev_ge fr 2 (by omega) xs (i - l.length + 1)
    have e2 := lev_le fr 2 (by omega) (by omega) xs (i - l.length + 1)
    refine ⟨by dsimp only; omega, ⟨by dsimp only; omega, by dsimp only; omega⟩, fun j y hj hy => ?_⟩
    rcases key j y hy with ⟨h2, rfl⟩ | ⟨h3, h2, rfl⟩
    · omega
    · exact lev_mono fr 2 (by omega) xs _ _ (by omega)
theorem log_par {st fr : Int} {xs : List Int} {n : Int} (h : n < fr) : ∀ x ∈ logM st fr 2 xs, n < x.2 ∧ x.2 % 2 = fr % 2 := fun x hx => by
  obtain ⟨i, hi⟩ := List.getElem?_of_mem hx
  obtain ⟨-, rfl⟩ := logM_at hi
  have e1 := lev_ge fr 2 (by omega) xs (i + 1)
  have e2 := lev_par fr xs (i + 1)
  exact ⟨by dsimp only; omega, e2⟩
theorem log_last {l : List Int} : ∀ x, (logM 0 1 1 l)[(logM 0 1 1 l).length - 1]? = some x → x.2 = lev 1 1 l := fun x hx => by
  obtain ⟨h1, rfl⟩ := logM_at hx
  rw [logM_len] at h1 ⊢
  dsimp only
  rw [List.take_of_length_le (by omega)]
theorem safe_at {l xs ys : List Int} {ev od : Int} (hl : l.length ≤ 30) (hx : xs.length ≤ 31) (hy : ys.length ≤ 31) (he : ev = lev 1 1 l + 2 - lev 1 1 l % 2) (ho : od = lev 1 1 l + 1 + lev 1 1 l % 2) {m : Int}
    (h : MeetR (ofM ((logM 0 1 1 l ++ logM l.length ev 2 xs).map toB)) (ofM ((logM 0 1 1 l ++ logM l.length od 2 ys).map toB)) (logM 0 1 1 l ++ logM l.length ev 2 xs).length (logM 0 1 1 l ++ logM l.length od 2 ys).length m) : m = l.length := by
  have ha := inc_both hl hx (fr := ev) (by omega)
  have hb := inc_both hl hy (fr := od) (by omega)
  have := safe_meet ha hb log_last (fun x hx => by have := log_par (n := lev 1 1 l) (by omega) x hx; omega) (fun x hx => by have := log_par (n := lev 1 1 l) (by omega) x hx; omega) (tab_of ha) (tab_of hb) h
  rwa [logM_len] at this
theorem gx_slv_at {α : Type} {E : α → List Value → Prop} {G : Nat → Option Obj} {D : List Nat} {v : Value} {et : TypeId} {sz n : Nat} {ys : List Value} {xs : List α} (L1 L2 : List Kx.Item) (h0 : 0 < sz) (hc : Cells E sz xs ys) :
    GhostX ⟨G, L1 ++ .row v et sz n ys :: L2, D⟩ fun h' => ∃ G', h' = ⟨G', L1 ++ L2, D⟩ ∧ Gle G G' ∧ SlV G' E sz v xs :=
  (GhostX.of (ghost_perm List.perm_middle)).trans fun h' e => by subst e; exact gx_slv h0 hc
/-- The beginning of a slice. -/
theorem slv_pre {G : Nat → Option Obj} {A : Option Addr} {n c k : Nat} {zs ws : List LB} (h : SlV G LE 10 (.slice A n c) (zs ++ ws)) (hk : k = zs.length) : SlV G LE 10 (.slice (if c = 0 then A else A.map (·.add (0 * 10))) k c) zs := by
  obtain ⟨A', c', he, h1, h2, h3⟩ := h
  cases he
  subst hk
  refine ⟨_, _, rfl, by simp at h1; omega, h2, ?_⟩
  have := h3.cut (l := 0) (n := zs.length) (B := if c = 0 then A else A.map (·.add (0 * 10))) (by simp) (fun h => by rw [if_neg (by simp at h1; omega)])
  simpa using this

theorem Safe_ok (l xs ys : List Int) (v u w : Value) (G : Nat → Option Obj) (hl : SlV G UE 1 v l) (hx : SlV G UE 1 u xs) (hy : SlV G UE 1 w ys) : FnS Try.prog 10 #[v, u, w] G (.bool true) := by
  have hl0 := hl
  have hx0 := hx
  have hy0 := hy
  obtain ⟨A, c, rfl, hc, hm, hA⟩ := hl
  obtain ⟨B, d, rfl, hd, hmd, hB⟩ := hx
  obtain ⟨C, f, rfl, hf, hmf, hC⟩ := hy
  refine F10.fnS (by simp) (go_of ?_)
  unfold c10
  (repeat first | (with_reducible intro _) | refine go_seq ?_ | refine go_skip ?_ | refine go_lab ?_ | refine go_blk ?_ | refine go_b ?_ | refine go_n ?_ | refine go_scp ?_); refine go_r 0 0 (by decide) ?_; (try simp -implicitDefEqProofs only [kR_e, kQ_e, push_cast, Nat.reduceBEq, Nat.reduceAdd, Nat.reduceSub, Nat.reduceMul, Nat.reduceLT, Nat.reduceLeDiff, Nat.reduceEqDiff, reduceIte, Bool.not_true, Bool.not_false, true_and, and_true, Option.map_some, Option.bind_some, Int.toNat_natCast, c10r0])
  (repeat first | (with_reducible intro _) | refine go_seq ?_ | refine go_skip ?_ | refine go_lab ?_ | refine go_blk ?_ | refine go_b ?_ | refine go_n ?_ | refine go_scp ?_); refine go_r 14 15 (by decide) ?_; (try simp -implicitDefEqProofs only [kR_e, kQ_e, push_cast, Nat.reduceBEq, Nat.reduceAdd, Nat.reduceSub, Nat.reduceMul, Nat.reduceLT, Nat.reduceLeDiff, Nat.reduceEqDiff, reduceIte, Bool.not_true, Bool.not_false, true_and, and_true, Option.map_some, Option.bind_some, Int.toNat_natCast, c10r1])
  refine (live_ok G _ _).mono ?_; rintro _ _ ⟨rfl, rfl⟩; (try simp -implicitDefEqProofs only [kR_e, kQ_e, push_cast, Nat.reduceBEq, Nat.reduceAdd, Nat.reduceSub, Nat.reduceMul, Nat.reduceLT, Nat.reduceLeDiff, Nat.reduceEqDiff, reduceIte, Bool.not_true, Bool.not_false, true_and, and_true, Option.map_some, Option.bind_some, Int.toNat_natCast])
  (repeat first | (with_reducible intro _) | refine go_seq ?_ | refine go_skip ?_ | refine go_lab ?_ | refine go_blk ?_ | refine go_b ?_ | refine go_n ?_ | refine go_scp ?_); refine go_c ?_; (try simp -implicitDefEqProofs only [kR_e, kQ_e, push_cast, Nat.reduceBEq, Nat.reduceAdd, Nat.reduceSub, Nat.reduceMul, Nat.reduceLT, Nat.reduceLeDiff, Nat.reduceEqDiff, reduceIte, Bool.not_true, Bool.not_false, true_and, and_true, Option.map_some, Option.bind_some, Int.toNat_natCast])
  have hfew : ∀ (fr : List Td) (e : Env), go none Try.prog 120 v10.1 v10.2 (retQ o10 fun v h => v = .bool true) (Td.s ((SC.reg false c10r4).seq .ret) :: fr) e ⟨G, [], []⟩ := fun fr e => by
    (repeat first | (with_reducible intro _) | refine go_seq ?_ | refine go_skip ?_ | refine go_lab ?_ | refine go_blk ?_ | refine go_b ?_ | refine go_n ?_ | refine go_scp ?_); refine go_r 0 0 (by decide) ?_; (try simp -implicitDefEqProofs only [kR_e, kQ_e, push_cast, Nat.reduceBEq, Nat.reduceAdd, Nat.reduceSub, Nat.reduceMul, Nat.reduceLT, Nat.reduceLeDiff, Nat.reduceEqDiff, reduceIte, Bool.not_true, Bool.not_false, true_and, and_true, Option.map_some, Option.bind_some, Int.toNat_natCast, c10r4])
    (repeat first | (with_reducible intro _) | refine go_seq ?_ | refine go_skip ?_ | refine go_lab ?_ | refine go_blk ?_ | refine go_b ?_ | refine go_n ?_ | refine go_scp ?_)
    refine go_ret (retQ_v rfl ?_); simp only [push_cast, Nat.reduceBEq]
  (repeat first | (with_reducible intro _) | refine go_seq ?_ | refine go_skip ?_ | refine go_lab ?_ | refine go_blk ?_ | refine go_b ?_ | refine go_n ?_ | refine go_scp ?_); refine go_r 16 28 (by decide) ?_; (try simp -implicitDefEqProofs only [kR_e, kQ_e, push_cast, Nat.reduceBEq, Nat.reduceAdd, Nat.reduceSub, Nat.reduceMul, Nat.reduceLT, Nat.reduceLeDiff, Nat.reduceEqDiff, reduceIte, Bool.not_true, Bool.not_false, true_and, and_true, Option.map_some, Option.bind_some, Int.toNat_natCast, c10r3])
  refine gd (fun h1 => ?_) (fun h1 => ?_)
  · (try simp -implicitDefEqProofs only [kR_e, kQ_e, push_cast, Nat.reduceBEq, Nat.reduceAdd, Nat.reduceSub, Nat.reduceMul, Nat.reduceLT, Nat.reduceLeDiff, Nat.reduceEqDiff, reduceIte, Bool.not_true, Bool.not_false, true_and, and_true, Option.map_some, Option.bind_some, Int.toNat_natCast])
    (repeat first | (with_reducible intro _) | refine go_seq ?_ | refine go_skip ?_ | refine go_lab ?_ | refine go_blk ?_ | refine go_b ?_ | refine go_n ?_ | refine go_scp ?_); refine go_c ?_; (try simp -implicitDefEqProofs only [kR_e, kQ_e, push_cast, Nat.reduceBEq, Nat.reduceAdd, Nat.reduceSub, Nat.reduceMul, Nat.reduceLT, Nat.reduceLeDiff, Nat.reduceEqDiff, reduceIte, Bool.not_true, Bool.not_false, true_and, and_true, Option.map_some, Option.bind_some, Int.toNat_natCast])
    exact hfew _ _
  (try simp -implicitDefEqProofs only [kR_e, kQ_e, push_cast, Nat.reduceBEq, Nat.reduceAdd, Nat.reduceSub, Nat.reduceMul, Nat.reduceLT, Nat.reduceLeDiff, Nat.reduceEqDiff, reduceIte, Bool.not_true, Bool.not_false, true_and, and_true, Option.map_some, Option.bind_some, Int.toNat_natCast])
  refine gd (fun h2 => ?_) (fun h2 => ?_)
  · (try simp -implicitDefEqProofs only [kR_e, kQ_e, push_cast, Nat.reduceBEq, Nat.reduceAdd, Nat.reduceSub, Nat.reduceMul, Nat.reduceLT, Nat.reduceLeDiff, Nat.reduceEqDiff, reduceIte, Bool.not_true, Bool.not_false, true_and, and_true, Option.map_some, Option.bind_some, Int.toNat_natCast])
    (repeat first | (with_reducible intro _) | refine go_seq ?_ | refine go_skip ?_ | refine go_lab ?_ | refine go_blk ?_ | refine go_b ?_ | refine go_n ?_ | refine go_scp ?_); refine go_c ?_; (try simp -implicitDefEqProofs only [kR_e, kQ_e, push_cast, Nat.reduceBEq, Nat.reduceAdd, Nat.reduceSub, Nat.reduceMul, Nat.reduceLT, Nat.reduceLeDiff, Nat.reduceEqDiff, reduceIte, Bool.not_true, Bool.not_false, true_and, and_true, Option.map_some, Option.bind_some, Int.toNat_natCast])
    exact hfew _ _
  (try simp -implicitDefEqProofs only [kR_e, kQ_e, push_cast, Nat.reduceBEq, Nat.reduceAdd, Nat.reduceSub, Nat.reduceMul, Nat.reduceLT, Nat.reduceLeDiff, Nat.reduceEqDiff, reduceIte, Bool.not_true, Bool.not_false, true_and, and_true, Option.map_some, Option.bind_some, Int.toNat_natCast])
  (repeat first | (with_reducible intro _) | refine go_seq ?_ | refine go_skip ?_ | refine go_lab ?_ | refine go_blk ?_ | refine go_b ?_ | refine go_n ?_ | refine go_scp ?_); refine go_c ?_; (try simp -implicitDefEqProofs only [kR_e, kQ_e, push_cast, Nat.reduceBEq, Nat.reduceAdd, Nat.reduceSub, Nat.reduceMul, Nat.reduceLT, Nat.reduceLeDiff, Nat.reduceEqDiff, reduceIte, Bool.not_true, Bool.not_false, true_and, and_true, Option.map_some, Option.bind_some, Int.toNat_natCast])
  refine gb (fun h3 => ?_) (fun h3 => ?_)
  · exact hfew _ _
  have h1 : l.length ≤ 30 := by simp at h1; omega
  have h2 : xs.length ≤ 30 := by simp at h2; omega
  have h3 : ys.length ≤ 30 := by simp at h3; omega
  (repeat first | refine go_skip ?_ | refine go_b ?_)
  (repeat first | (with_reducible intro _) | refine go_seq ?_ | refine go_skip ?_ | refine go_lab ?_ | refine go_blk ?_ | refine go_b ?_ | refine go_n ?_ | refine go_scp ?_); refine go_r 29 31 (by decide) ?_; (try simp -implicitDefEqProofs only [kR_e, kQ_e, push_cast, Nat.reduceBEq, Nat.reduceAdd, Nat.reduceSub, Nat.reduceMul, Nat.reduceLT, Nat.reduceLeDiff, Nat.reduceEqDiff, reduceIte, Bool.not_true, Bool.not_false, true_and, and_true, Option.map_some, Option.bind_some, Int.toNat_natCast, c10r5])
  refine (Log_ok 0 1 1 (by omega) (by omega) (by omega) l _ G hl0 (by omega) _ []).mono ?_
  rintro r h' ⟨G1, rfl, hg1, hb⟩
  have hn1 := lev_ge 1 1 (by omega) l l.length
  have hn2 := lev_le 1 1 (by omega) (by omega) l l.length
  rw [List.take_length] at hn1 hn2
  have hlast := log_last (l := l)
  have hbl := logM_len 0 1 1 l
  have hsafe := fun (zx zy : List Int) (h4 : zx.length ≤ 31) (h5 : zy.length ≤ 31) => @safe_at l zx zy _ _ h1 h4 h5 rfl rfl
  obtain ⟨n, hn⟩ : ∃ n, n = lev 1 1 l := ⟨_, rfl⟩
  rw [← hn] at hn1 hn2 hlast hsafe
  obtain ⟨both, hbo⟩ : ∃ b, b = logM 0 1 1 l := ⟨_, rfl⟩
  rw [← hbo] at hlast hbl hsafe hb
  have hl1 := hl0.le hg1 (E' := UE) fun _ _ h => h
  have hx1 := hx0.le hg1 (E' := UE) fun _ _ h => h
  have hy1 := hy0.le hg1 (E' := UE) fun _ _ h => h
  obtain ⟨A1, k1, rfl, hk1, hm1, hA1⟩ := id hb
  have hrem : binV .rem (.int .i64 n) (.int .i64 2) = some (.int .i64 (n % 2)) := by
    simp [binV]
    exact Int.tmod_eq_emod_of_nonneg (by omega)
  have w1 : IntKind.i64.wrap (n + 2) = n + 2 := by rw [w64_id] <;> omega
  have w2 : IntKind.i64.wrap (n + 2 - n % 2) = n + 2 - n % 2 := by rw [w64_id] <;> omega
  have w3 : IntKind.i64.wrap (n + 1) = n + 1 := by rw [w64_id] <;> omega
  have w4 : IntKind.i64.wrap (n + 1 + n % 2) = n + 1 + n % 2 := by rw [w64_id] <;> omega
  (try simp -implicitDefEqProofs only [kR_e, kQ_e, push_cast, Nat.reduceBEq, Nat.reduceAdd, Nat.reduceSub, Nat.reduceMul, Nat.reduceLT, Nat.reduceLeDiff, Nat.reduceEqDiff, reduceIte, Bool.not_true, Bool.not_false, true_and, and_true, Option.map_some, Option.bind_some, Int.toNat_natCast])
  -- from r14 on
  have hend : ∀ (e : Env) (G2 : Nat → Option Obj) (zx zy : List Int) (vx vy : Value), Gle G1 G2 → SlV G2 UE 1 vx zx → SlV G2 UE 1 vy zy → zx.length ≤ 31 → zy.length ≤ 31 → e 0 = .slice A l.length c → e 1 = vx → e 2 = vy → e 7 = .slice A1 both.length k1 → e 9 = .int .i64 (n + 2 - n % 2) → e 10 = .int .i64 (n + 1 + n % 2) →
      go none Try.prog 120 v10.1 v10.2 (retQ o10 fun v h => v = .bool true) [Td.s ((SC.reg false c10r14).seq ((SC.reg false c10r15).seq ((SC.reg false c10r16).seq (((SC.reg false c10r17).seq (SC.cond (O.t 112) ((SC.reg false c10r18).seq SC.ret) SC.skip)).seq ((SC.reg true c10r19).seq SC.ret)))))] e ⟨G2, [], []⟩ := fun e G2 zx zy vx vy hg2 hzx hzy hlx hly e0 e1 e2 e7 e9 e10 => by
    have hb2 := hb.le hg2 (E' := LE) fun _ _ h => h
    obtain ⟨Ax, cx, rfl, hcx, hmx, hAx⟩ := id hzx
    obtain ⟨Ay, cy, rfl, hcy, hmy, hAy⟩ := id hzy
    refine go_keep [0, 1, 2, 7, 9, 10] ?_
    (try simp -implicitDefEqProofs only [kR_e, kQ_e, push_cast, Nat.reduceBEq, Nat.reduceAdd, Nat.reduceSub, Nat.reduceMul, Nat.reduceLT, Nat.reduceLeDiff, Nat.reduceEqDiff, reduceIte, Bool.not_true, Bool.not_false, true_and, and_true, Option.map_some, Option.bind_some, Int.toNat_natCast, e0, e1, e2, e7, e9, e10])
    (repeat first | (with_reducible intro _) | refine go_seq ?_ | refine go_skip ?_ | refine go_lab ?_ | refine go_blk ?_ | refine go_b ?_ | refine go_n ?_ | refine go_scp ?_); refine go_r 63 71 (by decide) ?_; (try simp -implicitDefEqProofs only [kR_e, kQ_e, push_cast, Nat.reduceBEq, Nat.reduceAdd, Nat.reduceSub, Nat.reduceMul, Nat.reduceLT, Nat.reduceLeDiff, Nat.reduceEqDiff, reduceIte, Bool.not_true, Bool.not_false, true_and, and_true, Option.map_some, Option.bind_some, Int.toNat_natCast, c10r14])
    refine apX_v (.inr ⟨⟨none, rfl⟩, rfl, rfl, rfl, rfl⟩) hb2 rfl LE1 (by rw [hbl]; unfold maxLen; omega) fun ya A2 c2 hya => ?_
    simp only [Nat.zero_add, List.nil_append]
    (try simp -implicitDefEqProofs only [kR_e, kQ_e, push_cast, Nat.reduceBEq, Nat.reduceAdd, Nat.reduceSub, Nat.reduceMul, Nat.reduceLT, Nat.reduceLeDiff, Nat.reduceEqDiff, reduceIte, Bool.not_true, Bool.not_false, true_and, and_true, Option.map_some, Option.bind_some, Int.toNat_natCast])
    refine (Log_ok l.length (n + 2 - n % 2) 2 (by omega) (by omega) (by omega) zx _ G2 hzx (by omega) _ []).mono ?_
    rintro r h' ⟨G3, rfl, hg3, hla⟩
    (try simp -implicitDefEqProofs only [kR_e, kQ_e, push_cast, Nat.reduceBEq, Nat.reduceAdd, Nat.reduceSub, Nat.reduceMul, Nat.reduceLT, Nat.reduceLeDiff, Nat.reduceEqDiff, reduceIte, Bool.not_true, Bool.not_false, true_and, and_true, Option.map_some, Option.bind_some, Int.toNat_natCast])
    refine apX_v (L1 := []) (.inl rfl) hla rfl LE1 (by rw [hbl, logM_len]; unfold maxLen; omega) fun ya' A3 c3 hya' => ?_
    have hrowa := hya.app hya'
    rw [logM_len]
    (try simp -implicitDefEqProofs only [kR_e, kQ_e, push_cast, Nat.reduceBEq, Nat.reduceAdd, Nat.reduceSub, Nat.reduceMul, Nat.reduceLT, Nat.reduceLeDiff, Nat.reduceEqDiff, reduceIte, Bool.not_true, Bool.not_false, true_and, and_true, Option.map_some, Option.bind_some, Int.toNat_natCast])
    (repeat first | (with_reducible intro _) | refine go_seq ?_ | refine go_skip ?_ | refine go_lab ?_ | refine go_blk ?_ | refine go_b ?_ | refine go_n ?_ | refine go_scp ?_); refine go_r 71 79 (by decide) ?_; (try simp -implicitDefEqProofs only [kR_e, kQ_e, push_cast, Nat.reduceBEq, Nat.reduceAdd, Nat.reduceSub, Nat.reduceMul, Nat.reduceLT, Nat.reduceLeDiff, Nat.reduceEqDiff, reduceIte, Bool.not_true, Bool.not_false, true_and, and_true, Option.map_some, Option.bind_some, Int.toNat_natCast, c10r15])
    have hb3 := hb2.le hg3 (E' := LE) fun _ _ h => h
    refine apX_v (.inr ⟨⟨none, rfl⟩, rfl, rfl, rfl, rfl⟩) hb3 rfl LE1 (by rw [hbl]; unfold maxLen; omega) fun yb B2 d2 hyb => ?_
    simp only [Nat.zero_add, List.nil_append]
    (try simp -implicitDefEqProofs only [kR_e, kQ_e, push_cast, Nat.reduceBEq, Nat.reduceAdd, Nat.reduceSub, Nat.reduceMul, Nat.reduceLT, Nat.reduceLeDiff, Nat.reduceEqDiff, reduceIte, Bool.not_true, Bool.not_false, true_and, and_true, Option.map_some, Option.bind_some, Int.toNat_natCast])
    refine (Log_ok l.length (n + 1 + n % 2) 2 (by omega) (by omega) (by omega) zy _ G3 (hzy.le hg3 fun _ _ h => h) (by omega) _ []).mono ?_
    rintro r' h' ⟨G4, rfl, hg4, hlb⟩
    (try simp -implicitDefEqProofs only [kR_e, kQ_e, push_cast, Nat.reduceBEq, Nat.reduceAdd, Nat.reduceSub, Nat.reduceMul, Nat.reduceLT, Nat.reduceLeDiff, Nat.reduceEqDiff, reduceIte, Bool.not_true, Bool.not_false, true_and, and_true, Option.map_some, Option.bind_some, Int.toNat_natCast])
    refine apX_v (L1 := []) (.inl rfl) hlb rfl LE1 (by rw [hbl, logM_len]; unfold maxLen; omega) fun yb' B3 d3 hyb' => ?_
    have hrowb := hyb.app hyb'
    rw [logM_len]
    (try simp -implicitDefEqProofs only [kR_e, kQ_e, push_cast, Nat.reduceBEq, Nat.reduceAdd, Nat.reduceSub, Nat.reduceMul, Nat.reduceLT, Nat.reduceLeDiff, Nat.reduceEqDiff, reduceIte, Bool.not_true, Bool.not_false, true_and, and_true, Option.map_some, Option.bind_some, Int.toNat_natCast])
    intro _
    refine go_gx (gx_slv_at [] _ (by decide) hrowb) ?_
    rintro h' ⟨G5, rfl, hg5, hvb⟩
    refine go_gx (gx_slv_at [] _ (by decide) hrowa) ?_
    rintro h' ⟨G6, rfl, hg6, hva⟩
    replace hvb := hvb.le hg6 (E' := LE) fun _ _ h => h
    have hla' : (both ++ logM l.length (n + 2 - n % 2) 2 zx).length = both.length + zx.length := by rw [List.length_append, logM_len]
    have hlb' : (both ++ logM l.length (n + 1 + n % 2) 2 zy).length = both.length + zy.length := by rw [List.length_append, logM_len]
    have hsf := @hsafe zx zy hlx hly
    rw [hla', hlb'] at hsf
    clear hya hya' hyb hyb' hrowa hrowb
    (repeat first | (with_reducible intro _) | refine go_seq ?_ | refine go_skip ?_ | refine go_lab ?_ | refine go_blk ?_ | refine go_b ?_ | refine go_n ?_ | refine go_scp ?_); refine go_r 79 88 (by decide) ?_; (try simp -implicitDefEqProofs only [kR_e, kQ_e, push_cast, Nat.reduceBEq, Nat.reduceAdd, Nat.reduceSub, Nat.reduceMul, Nat.reduceLT, Nat.reduceLeDiff, Nat.reduceEqDiff, reduceIte, Bool.not_true, Bool.not_false, true_and, and_true, Option.map_some, Option.bind_some, Int.toNat_natCast, c10r16])
    refine (Of_ok _ _ G6 (sbat hva) (by rw [List.length_map, hla']; omega) _ []).mono ?_
    rintro r1 h' ⟨G7, rfl, hg7, hea⟩
    have hva7 := hva.le hg7 (E' := LE) fun _ _ h => h
    have hvb7 := hvb.le hg7 (E' := LE) fun _ _ h => h
    (try simp -implicitDefEqProofs only [kR_e, kQ_e, push_cast, Nat.reduceBEq, Nat.reduceAdd, Nat.reduceSub, Nat.reduceMul, Nat.reduceLT, Nat.reduceLeDiff, Nat.reduceEqDiff, reduceIte, Bool.not_true, Bool.not_false, true_and, and_true, Option.map_some, Option.bind_some, Int.toNat_natCast])
    refine (Of_ok _ _ G7 (sbat hvb7) (by rw [List.length_map, hlb']; omega) _ []).mono ?_
    rintro r2 h' ⟨G8, rfl, hg8, heb⟩
    have hva8 := hva7.le hg8 (E' := LE) fun _ _ h => h
    have hvb8 := hvb7.le hg8 (E' := LE) fun _ _ h => h
    (try simp -implicitDefEqProofs only [kR_e, kQ_e, push_cast, Nat.reduceBEq, Nat.reduceAdd, Nat.reduceSub, Nat.reduceMul, Nat.reduceLT, Nat.reduceLeDiff, Nat.reduceEqDiff, reduceIte, Bool.not_true, Bool.not_false, true_and, and_true, Option.map_some, Option.bind_some, Int.toNat_natCast])
    have hlo := fun l => ofM_len (List.map toB l)
    refine (Meet_ok _ _ _ _ _ _ G8 (hea.le hg8 fun _ _ h => h) heb (by have := hlo (both ++ logM l.length (n + 2 - n % 2) 2 zx); rw [List.length_map, hla'] at this; omega) (by have := hlo (both ++ logM l.length (n + 1 + n % 2) 2 zy); rw [List.length_map, hlb'] at this; omega) _ _).mono ?_
    rintro r3 h' ⟨⟨m, rfl, hR⟩, rfl⟩
    obtain rfl := hsf hR
    have q1 : decide ((l.length : Int) < 0) = false := by simp
    have q2 : decide ((both.length : Int) + (zx.length : Int) < l.length) = false := by simp; omega
    have q3 : decide ((both.length : Int) + (zy.length : Int) < l.length) = false := by simp; omega
    have q4 : decide ((l.length : Int) < l.length) = false := by simp
    (try simp -implicitDefEqProofs only [kR_e, kQ_e, push_cast, Nat.reduceBEq, Nat.reduceAdd, Nat.reduceSub, Nat.reduceMul, Nat.reduceLT, Nat.reduceLeDiff, Nat.reduceEqDiff, reduceIte, Bool.not_true, Bool.not_false, true_and, and_true, Option.map_some, Option.bind_some, Int.toNat_natCast])
    have hfin : ∀ (e : Env), e 11 = .slice A3 (both.length + zx.length) c3 → e 12 = .slice B3 (both.length + zy.length) d3 → e 13 = .int .i64 l.length →
        go none Try.prog 120 v10.1 v10.2 (retQ o10 fun v h => v = .bool true) [Td.s ((SC.reg true c10r19).seq SC.ret)] e ⟨G8, [], []⟩ := fun e e11 e12 e13 => by
      refine go_keep [11, 12, 13] ?_
      (try simp -implicitDefEqProofs only [kR_e, kQ_e, push_cast, Nat.reduceBEq, Nat.reduceAdd, Nat.reduceSub, Nat.reduceMul, Nat.reduceLT, Nat.reduceLeDiff, Nat.reduceEqDiff, reduceIte, Bool.not_true, Bool.not_false, true_and, and_true, Option.map_some, Option.bind_some, Int.toNat_natCast, e11, e12, e13])
      (repeat first | (with_reducible intro _) | refine go_seq ?_ | refine go_skip ?_ | refine go_lab ?_ | refine go_blk ?_ | refine go_b ?_ | refine go_n ?_ | refine go_scp ?_); refine go_q 113 120 (by decide) ?_; (try simp -implicitDefEqProofs only [kR_e, kQ_e, push_cast, Nat.reduceBEq, Nat.reduceAdd, Nat.reduceSub, Nat.reduceMul, Nat.reduceLT, Nat.reduceLeDiff, Nat.reduceEqDiff, reduceIte, Bool.not_true, Bool.not_false, true_and, and_true, Option.map_some, Option.bind_some, Int.toNat_natCast, c10r19, sqY_i, Int.toNat_natCast])
      obtain ⟨Aa, ca, hae, hca1, hca2, -⟩ := id hva8
      obtain ⟨Ab, cb, hbe, hcb1, hcb2, -⟩ := id hvb8
      simp only [Value.slice.injEq] at hae hbe
      obtain ⟨-, -, rfl⟩ := hae
      obtain ⟨-, -, rfl⟩ := hbe
      refine ⟨by omega, by omega, ?_⟩
      refine ⟨.bool true, SameAll_ok both _ _ G8 (slv_pre hva8 (by simp; omega)) (slv_pre hvb8 (by simp; omega)) _ _, ?_⟩
      (try simp -implicitDefEqProofs only [kR_e, kQ_e, push_cast, Nat.reduceBEq, Nat.reduceAdd, Nat.reduceSub, Nat.reduceMul, Nat.reduceLT, Nat.reduceLeDiff, Nat.reduceEqDiff, reduceIte, Bool.not_true, Bool.not_false, true_and, and_true, Option.map_some, Option.bind_some, Int.toNat_natCast])
      (repeat first | (with_reducible intro _) | refine go_seq ?_ | refine go_skip ?_ | refine go_lab ?_ | refine go_blk ?_ | refine go_b ?_ | refine go_n ?_ | refine go_scp ?_)
      refine go_ret (retQ_v rfl ?_); simp only [push_cast, Nat.reduceBEq]
    (repeat first | (with_reducible intro _) | refine go_seq ?_ | refine go_skip ?_ | refine go_lab ?_ | refine go_blk ?_ | refine go_b ?_ | refine go_n ?_ | refine go_scp ?_); refine go_r 88 112 (by decide) ?_; (try simp -implicitDefEqProofs only [kR_e, kQ_e, push_cast, Nat.reduceBEq, Nat.reduceAdd, Nat.reduceSub, Nat.reduceMul, Nat.reduceLT, Nat.reduceLeDiff, Nat.reduceEqDiff, reduceIte, Bool.not_true, Bool.not_false, true_and, and_true, Option.map_some, Option.bind_some, Int.toNat_natCast, c10r17, q1, q2, q3, q4])
    refine gd (fun h7 => ?_) (fun h7 => ?_)
    · (try simp -implicitDefEqProofs only [kR_e, kQ_e, push_cast, Nat.reduceBEq, Nat.reduceAdd, Nat.reduceSub, Nat.reduceMul, Nat.reduceLT, Nat.reduceLeDiff, Nat.reduceEqDiff, reduceIte, Bool.not_true, Bool.not_false, true_and, and_true, Option.map_some, Option.bind_some, Int.toNat_natCast, q4])
      (repeat first | (with_reducible intro _) | refine go_seq ?_ | refine go_skip ?_ | refine go_lab ?_ | refine go_blk ?_ | refine go_b ?_ | refine go_n ?_ | refine go_scp ?_); refine go_c ?_; (try simp -implicitDefEqProofs only [kR_e, kQ_e, push_cast, Nat.reduceBEq, Nat.reduceAdd, Nat.reduceSub, Nat.reduceMul, Nat.reduceLT, Nat.reduceLeDiff, Nat.reduceEqDiff, reduceIte, Bool.not_true, Bool.not_false, true_and, and_true, Option.map_some, Option.bind_some, Int.toNat_natCast])
      (repeat first | refine go_skip ?_ | refine go_b ?_)
      refine hfin _ ?_ ?_ ?_ <;> (try simp -implicitDefEqProofs only [kR_e, kQ_e, push_cast, Nat.reduceBEq, Nat.reduceAdd, Nat.reduceSub, Nat.reduceMul, Nat.reduceLT, Nat.reduceLeDiff, Nat.reduceEqDiff, reduceIte, Bool.not_true, Bool.not_false, true_and, and_true, Option.map_some, Option.bind_some, Int.toNat_natCast])
    · (try simp -implicitDefEqProofs only [kR_e, kQ_e, push_cast, Nat.reduceBEq, Nat.reduceAdd, Nat.reduceSub, Nat.reduceMul, Nat.reduceLT, Nat.reduceLeDiff, Nat.reduceEqDiff, reduceIte, Bool.not_true, Bool.not_false, true_and, and_true, Option.map_some, Option.bind_some, Int.toNat_natCast, q4])
      (repeat first | (with_reducible intro _) | refine go_seq ?_ | refine go_skip ?_ | refine go_lab ?_ | refine go_blk ?_ | refine go_b ?_ | refine go_n ?_ | refine go_scp ?_); refine go_c ?_; (try simp -implicitDefEqProofs only [kR_e, kQ_e, push_cast, Nat.reduceBEq, Nat.reduceAdd, Nat.reduceSub, Nat.reduceMul, Nat.reduceLT, Nat.reduceLeDiff, Nat.reduceEqDiff, reduceIte, Bool.not_true, Bool.not_false, true_and, and_true, Option.map_some, Option.bind_some, Int.toNat_natCast])
      (repeat first | refine go_skip ?_ | refine go_b ?_)
      refine hfin _ ?_ ?_ ?_ <;> (try simp -implicitDefEqProofs only [kR_e, kQ_e, push_cast, Nat.reduceBEq, Nat.reduceAdd, Nat.reduceSub, Nat.reduceMul, Nat.reduceLT, Nat.reduceLeDiff, Nat.reduceEqDiff, reduceIte, Bool.not_true, Bool.not_false, true_and, and_true, Option.map_some, Option.bind_some, Int.toNat_natCast])
  have hY : ∀ (e : Env) (G2 : Nat → Option Obj) (zx : List Int) (vx : Value), Gle G1 G2 → SlV G2 UE 1 vx zx → zx.length ≤ 31 → e 0 = .slice A l.length c → e 1 = vx → e 2 = .slice C ys.length f → e 7 = .slice A1 both.length k1 → e 9 = .int .i64 (n + 2 - n % 2) → e 10 = .int .i64 (n + 1 + n % 2) →
      go none Try.prog 120 v10.1 v10.2 (retQ o10 fun v h => v = .bool true) [Td.s (((SC.reg false c10r12).seq (SC.cond (O.t 59) (SC.reg false c10r13) SC.skip)).seq ((SC.reg false c10r14).seq ((SC.reg false c10r15).seq ((SC.reg false c10r16).seq (((SC.reg false c10r17).seq (SC.cond (O.t 112) ((SC.reg false c10r18).seq SC.ret) SC.skip)).seq ((SC.reg true c10r19).seq SC.ret))))))] e ⟨G2, [], []⟩ := fun e G2 zx vx hg2 hzx hlx e0 e1 e2 e7 e9 e10 => by
    have hy2 := hy1.le hg2 (E' := UE) fun _ _ h => h
    refine go_keep [0, 1, 2, 7, 9, 10] ?_
    (try simp -implicitDefEqProofs only [kR_e, kQ_e, push_cast, Nat.reduceBEq, Nat.reduceAdd, Nat.reduceSub, Nat.reduceMul, Nat.reduceLT, Nat.reduceLeDiff, Nat.reduceEqDiff, reduceIte, Bool.not_true, Bool.not_false, true_and, and_true, Option.map_some, Option.bind_some, Int.toNat_natCast, e0, e1, e2, e7, e9, e10])
    (repeat first | (with_reducible intro _) | refine go_seq ?_ | refine go_skip ?_ | refine go_lab ?_ | refine go_blk ?_ | refine go_b ?_ | refine go_n ?_ | refine go_scp ?_); refine go_r 57 59 (by decide) ?_; (try simp -implicitDefEqProofs only [kR_e, kQ_e, push_cast, Nat.reduceBEq, Nat.reduceAdd, Nat.reduceSub, Nat.reduceMul, Nat.reduceLT, Nat.reduceLeDiff, Nat.reduceEqDiff, reduceIte, Bool.not_true, Bool.not_false, true_and, and_true, Option.map_some, Option.bind_some, Int.toNat_natCast, c10r12])
    (repeat first | (with_reducible intro _) | refine go_seq ?_ | refine go_skip ?_ | refine go_lab ?_ | refine go_blk ?_ | refine go_b ?_ | refine go_n ?_ | refine go_scp ?_); refine go_c ?_; (try simp -implicitDefEqProofs only [kR_e, kQ_e, push_cast, Nat.reduceBEq, Nat.reduceAdd, Nat.reduceSub, Nat.reduceMul, Nat.reduceLT, Nat.reduceLeDiff, Nat.reduceEqDiff, reduceIte, Bool.not_true, Bool.not_false, true_and, and_true, Option.map_some, Option.bind_some, Int.toNat_natCast])
    refine gb (fun h4 => ?_) (fun h4 => ?_)
    · (repeat first | (with_reducible intro _) | refine go_seq ?_ | refine go_skip ?_ | refine go_lab ?_ | refine go_blk ?_ | refine go_b ?_ | refine go_n ?_ | refine go_scp ?_); refine go_r 60 63 (by decide) ?_; (try simp -implicitDefEqProofs only [kR_e, kQ_e, push_cast, Nat.reduceBEq, Nat.reduceAdd, Nat.reduceSub, Nat.reduceMul, Nat.reduceLT, Nat.reduceLeDiff, Nat.reduceEqDiff, reduceIte, Bool.not_true, Bool.not_false, true_and, and_true, Option.map_some, Option.bind_some, Int.toNat_natCast, c10r13])
      intro bk hbk
      refine apX_v (L1 := []) (.inl rfl) hy2 rfl UE1 (by unfold maxLen; omega) fun ya A2 c2 hya => ?_
      (try simp -implicitDefEqProofs only [kR_e, kQ_e, push_cast, Nat.reduceBEq, Nat.reduceAdd, Nat.reduceSub, Nat.reduceMul, Nat.reduceLT, Nat.reduceLeDiff, Nat.reduceEqDiff, reduceIte, Bool.not_true, Bool.not_false, true_and, and_true, Option.map_some, Option.bind_some, Int.toNat_natCast])
      intro _
      refine go_gx (gx_slv_at [] _ (by decide) ((Cells.one (x := (0 : Int)) (cs := [.int .u8 0]) ⟨rfl, by omega, by omega⟩ rfl).app hya)) ?_
      rintro h' ⟨G3, rfl, hg3, hv⟩
      (repeat first | refine go_skip ?_ | refine go_b ?_)
      refine hend _ G3 zx _ _ _ (hg2.trans hg3) (hzx.le hg3 fun _ _ h => h) hv hlx (by simp; omega) ?_ ?_ ?_ ?_ ?_ ?_ <;> (try simp -implicitDefEqProofs only [kR_e, kQ_e, push_cast, Nat.reduceBEq, Nat.reduceAdd, Nat.reduceSub, Nat.reduceMul, Nat.reduceLT, Nat.reduceLeDiff, Nat.reduceEqDiff, reduceIte, Bool.not_true, Bool.not_false, true_and, and_true, Option.map_some, Option.bind_some, Int.toNat_natCast])
    · (repeat first | refine go_skip ?_ | refine go_b ?_)
      refine hend _ G2 zx ys vx _ hg2 hzx hy2 hlx (by omega) ?_ ?_ ?_ ?_ ?_ ?_ <;> (try simp -implicitDefEqProofs only [kR_e, kQ_e, push_cast, Nat.reduceBEq, Nat.reduceAdd, Nat.reduceSub, Nat.reduceMul, Nat.reduceLT, Nat.reduceLeDiff, Nat.reduceEqDiff, reduceIte, Bool.not_true, Bool.not_false, true_and, and_true, Option.map_some, Option.bind_some, Int.toNat_natCast])
  have hX : ∀ (e : Env), e 0 = .slice A l.length c → e 1 = .slice B xs.length d → e 2 = .slice C ys.length f → e 7 = .slice A1 both.length k1 → e 8 = .int .i64 n →
      go none Try.prog 120 v10.1 v10.2 (retQ o10 fun v h => v = .bool true) [Td.s ((SC.reg false c10r9).seq (((SC.reg false c10r10).seq (SC.cond (O.t 53) (SC.reg false c10r11) SC.skip)).seq (((SC.reg false c10r12).seq (SC.cond (O.t 59) (SC.reg false c10r13) SC.skip)).seq ((SC.reg false c10r14).seq ((SC.reg false c10r15).seq ((SC.reg false c10r16).seq (((SC.reg false c10r17).seq (SC.cond (O.t 112) ((SC.reg false c10r18).seq SC.ret) SC.skip)).seq ((SC.reg true c10r19).seq SC.ret))))))))] e ⟨G1, [], []⟩ := fun e e0 e1 e2 e7 e8 => by
    refine go_keep [0, 1, 2, 7, 8] ?_
    (try simp -implicitDefEqProofs only [kR_e, kQ_e, push_cast, Nat.reduceBEq, Nat.reduceAdd, Nat.reduceSub, Nat.reduceMul, Nat.reduceLT, Nat.reduceLeDiff, Nat.reduceEqDiff, reduceIte, Bool.not_true, Bool.not_false, true_and, and_true, Option.map_some, Option.bind_some, Int.toNat_natCast, e0, e1, e2, e7, e8])
    (repeat first | (with_reducible intro _) | refine go_seq ?_ | refine go_skip ?_ | refine go_lab ?_ | refine go_blk ?_ | refine go_b ?_ | refine go_n ?_ | refine go_scp ?_); refine go_r 41 51 (by decide) ?_; (try simp -implicitDefEqProofs only [kR_e, kQ_e, push_cast, Nat.reduceBEq, Nat.reduceAdd, Nat.reduceSub, Nat.reduceMul, Nat.reduceLT, Nat.reduceLeDiff, Nat.reduceEqDiff, reduceIte, Bool.not_true, Bool.not_false, true_and, and_true, Option.map_some, Option.bind_some, Int.toNat_natCast, c10r9, hrem, w1, w2, w3, w4])
    (repeat first | (with_reducible intro _) | refine go_seq ?_ | refine go_skip ?_ | refine go_lab ?_ | refine go_blk ?_ | refine go_b ?_ | refine go_n ?_ | refine go_scp ?_); refine go_r 51 53 (by decide) ?_; (try simp -implicitDefEqProofs only [kR_e, kQ_e, push_cast, Nat.reduceBEq, Nat.reduceAdd, Nat.reduceSub, Nat.reduceMul, Nat.reduceLT, Nat.reduceLeDiff, Nat.reduceEqDiff, reduceIte, Bool.not_true, Bool.not_false, true_and, and_true, Option.map_some, Option.bind_some, Int.toNat_natCast, c10r10])
    (repeat first | (with_reducible intro _) | refine go_seq ?_ | refine go_skip ?_ | refine go_lab ?_ | refine go_blk ?_ | refine go_b ?_ | refine go_n ?_ | refine go_scp ?_); refine go_c ?_; (try simp -implicitDefEqProofs only [kR_e, kQ_e, push_cast, Nat.reduceBEq, Nat.reduceAdd, Nat.reduceSub, Nat.reduceMul, Nat.reduceLT, Nat.reduceLeDiff, Nat.reduceEqDiff, reduceIte, Bool.not_true, Bool.not_false, true_and, and_true, Option.map_some, Option.bind_some, Int.toNat_natCast])
    refine gb (fun h4 => ?_) (fun h4 => ?_)
    · (repeat first | (with_reducible intro _) | refine go_seq ?_ | refine go_skip ?_ | refine go_lab ?_ | refine go_blk ?_ | refine go_b ?_ | refine go_n ?_ | refine go_scp ?_); refine go_r 54 57 (by decide) ?_; (try simp -implicitDefEqProofs only [kR_e, kQ_e, push_cast, Nat.reduceBEq, Nat.reduceAdd, Nat.reduceSub, Nat.reduceMul, Nat.reduceLT, Nat.reduceLeDiff, Nat.reduceEqDiff, reduceIte, Bool.not_true, Bool.not_false, true_and, and_true, Option.map_some, Option.bind_some, Int.toNat_natCast, c10r11])
      intro bk hbk
      refine apX_v (L1 := []) (.inl rfl) hx1 rfl UE1 (by unfold maxLen; omega) fun ya A2 c2 hya => ?_
      (try simp -implicitDefEqProofs only [kR_e, kQ_e, push_cast, Nat.reduceBEq, Nat.reduceAdd, Nat.reduceSub, Nat.reduceMul, Nat.reduceLT, Nat.reduceLeDiff, Nat.reduceEqDiff, reduceIte, Bool.not_true, Bool.not_false, true_and, and_true, Option.map_some, Option.bind_some, Int.toNat_natCast])
      intro _
      refine go_gx (gx_slv_at [] _ (by decide) ((Cells.one (x := (0 : Int)) (cs := [.int .u8 0]) ⟨rfl, by omega, by omega⟩ rfl).app hya)) ?_
      rintro h' ⟨G3, rfl, hg3, hv⟩
      (repeat first | refine go_skip ?_ | refine go_b ?_)
      refine hY _ G3 _ _ hg3 hv (by simp; omega) ?_ ?_ ?_ ?_ ?_ ?_ <;> (try simp -implicitDefEqProofs only [kR_e, kQ_e, push_cast, Nat.reduceBEq, Nat.reduceAdd, Nat.reduceSub, Nat.reduceMul, Nat.reduceLT, Nat.reduceLeDiff, Nat.reduceEqDiff, reduceIte, Bool.not_true, Bool.not_false, true_and, and_true, Option.map_some, Option.bind_some, Int.toNat_natCast])
    · (repeat first | refine go_skip ?_ | refine go_b ?_)
      refine hY _ G1 xs _ (Gle.refl _) hx1 (by omega) ?_ ?_ ?_ ?_ ?_ ?_ <;> (try simp -implicitDefEqProofs only [kR_e, kQ_e, push_cast, Nat.reduceBEq, Nat.reduceAdd, Nat.reduceSub, Nat.reduceMul, Nat.reduceLT, Nat.reduceLeDiff, Nat.reduceEqDiff, reduceIte, Bool.not_true, Bool.not_false, true_and, and_true, Option.map_some, Option.bind_some, Int.toNat_natCast])
  (repeat first | (with_reducible intro _) | refine go_seq ?_ | refine go_skip ?_ | refine go_lab ?_ | refine go_blk ?_ | refine go_b ?_ | refine go_n ?_ | refine go_scp ?_); refine go_r 0 0 (by decide) ?_; (try simp -implicitDefEqProofs only [kR_e, kQ_e, push_cast, Nat.reduceBEq, Nat.reduceAdd, Nat.reduceSub, Nat.reduceMul, Nat.reduceLT, Nat.reduceLeDiff, Nat.reduceEqDiff, reduceIte, Bool.not_true, Bool.not_false, true_and, and_true, Option.map_some, Option.bind_some, Int.toNat_natCast, c10r6])
  (repeat first | (with_reducible intro _) | refine go_seq ?_ | refine go_skip ?_ | refine go_lab ?_ | refine go_blk ?_ | refine go_b ?_ | refine go_n ?_ | refine go_scp ?_); refine go_r 31 33 (by decide) ?_; (try simp -implicitDefEqProofs only [kR_e, kQ_e, push_cast, Nat.reduceBEq, Nat.reduceAdd, Nat.reduceSub, Nat.reduceMul, Nat.reduceLT, Nat.reduceLeDiff, Nat.reduceEqDiff, reduceIte, Bool.not_true, Bool.not_false, true_and, and_true, Option.map_some, Option.bind_some, Int.toNat_natCast, c10r7])
  (repeat first | (with_reducible intro _) | refine go_seq ?_ | refine go_skip ?_ | refine go_lab ?_ | refine go_blk ?_ | refine go_b ?_ | refine go_n ?_ | refine go_scp ?_); refine go_c ?_; (try simp -implicitDefEqProofs only [kR_e, kQ_e, push_cast, Nat.reduceBEq, Nat.reduceAdd, Nat.reduceSub, Nat.reduceMul, Nat.reduceLT, Nat.reduceLeDiff, Nat.reduceEqDiff, reduceIte, Bool.not_true, Bool.not_false, true_and, and_true, Option.map_some, Option.bind_some, Int.toNat_natCast])
  refine gb (fun h4 => ?_) (fun h4 => ?_)
  · have hpos : 0 < both.length := by simp at h4; omega
    obtain ⟨q, hq⟩ : ∃ q, both[both.length - 1]? = some q := ⟨both[both.length - 1], List.getElem?_eq_getElem (by omega)⟩
    have hqn := hlast _ hq
    (repeat first | (with_reducible intro _) | refine go_seq ?_ | refine go_skip ?_ | refine go_lab ?_ | refine go_blk ?_ | refine go_b ?_ | refine go_n ?_ | refine go_scp ?_); refine go_r 34 41 (by decide) ?_; (try simp -implicitDefEqProofs only [kR_e, kQ_e, push_cast, Nat.reduceBEq, Nat.reduceAdd, Nat.reduceSub, Nat.reduceMul, Nat.reduceLT, Nat.reduceLeDiff, Nat.reduceEqDiff, reduceIte, Bool.not_true, Bool.not_false, true_and, and_true, Option.map_some, Option.bind_some, Int.toNat_natCast, c10r8, len_i both.length hpos (by unfold maxLen; omega)])
    refine hA1.x_lf hq rfl rfl (fun cs h => by rw [h.1]; rfl) fun a ha => ?_
    (try simp -implicitDefEqProofs only [kR_e, kQ_e, push_cast, Nat.reduceBEq, Nat.reduceAdd, Nat.reduceSub, Nat.reduceMul, Nat.reduceLT, Nat.reduceLeDiff, Nat.reduceEqDiff, reduceIte, Bool.not_true, Bool.not_false, true_and, and_true, Option.map_some, Option.bind_some, Int.toNat_natCast, hqn])
    intro _
    (repeat first | refine go_skip ?_ | refine go_b ?_)
    refine hX _ ?_ ?_ ?_ ?_ ?_ <;> (try simp -implicitDefEqProofs only [kR_e, kQ_e, push_cast, Nat.reduceBEq, Nat.reduceAdd, Nat.reduceSub, Nat.reduceMul, Nat.reduceLT, Nat.reduceLeDiff, Nat.reduceEqDiff, reduceIte, Bool.not_true, Bool.not_false, true_and, and_true, Option.map_some, Option.bind_some, Int.toNat_natCast])
  · have h0 : both.length = 0 := by have := of_decide_eq_false h4; omega
    have hn0 : n = 1 := by
      rw [hn, List.eq_nil_of_length_eq_zero (by omega : l.length = 0)]
      rfl
    (repeat first | refine go_skip ?_ | refine go_b ?_)
    refine hX _ ?_ ?_ ?_ ?_ ?_ <;> (try simp -implicitDefEqProofs only [kR_e, kQ_e, push_cast, Nat.reduceBEq, Nat.reduceAdd, Nat.reduceSub, Nat.reduceMul, Nat.reduceLT, Nat.reduceLeDiff, Nat.reduceEqDiff, reduceIte, Bool.not_true, Bool.not_false, true_and, and_true, Option.map_some, Option.bind_some, Int.toNat_natCast, hn0])
end Go.Proofs.Ytgclikgkfchmlaa

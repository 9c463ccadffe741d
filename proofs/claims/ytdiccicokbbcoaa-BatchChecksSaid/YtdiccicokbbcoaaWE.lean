/- Bytes, part 5 of a proof: a sum's steps. No condition. -/
import Derived.Test.YtdiccicokbbcoaaWA
set_option linter.unusedSimpArgs false
set_option linter.unusedVariables false
namespace Go.Proofs.Ytdiccicokbbcoaa
open Go Go.Kx

abbrev W32 := BitVec 32
def vW (v : W32) : Value := .int .u32 (v.toNat : Int)
def poly : W32 := 3988292384#32
def stp (v : W32) : W32 := (v >>> 1) ^^^ (if v.getLsbD 0 = true then poly else 0#32)
def stpN : Nat → W32 → W32
  | 0, v => v
  | n + 1, v => stp (stpN n v)
theorem stp_xor (a b : W32) : stp (a ^^^ b) = stp a ^^^ stp b := by
  unfold stp
  rw [BitVec.ushiftRight_xor_distrib, BitVec.getLsbD_xor]
  generalize a >>> 1 = x
  generalize b >>> 1 = y
  cases a.getLsbD 0 <;> cases b.getLsbD 0 <;> simp
  · rw [BitVec.xor_assoc]
  · rw [BitVec.xor_assoc, BitVec.xor_assoc, BitVec.xor_comm poly y]
  · rw [BitVec.xor_assoc, BitVec.xor_comm poly (y ^^^ poly), BitVec.xor_assoc, BitVec.xor_self, BitVec.xor_zero]
theorem stpN_xor (a b : W32) : ∀ n, stpN n (a ^^^ b) = stpN n a ^^^ stpN n b
  | 0 => rfl
  | n + 1 => by rw [stpN, stpN_xor a b n, stp_xor]; rfl
theorem stp_even {v : W32} (h : v.getLsbD 0 = false) : stp v = v >>> 1 := by rw [stp, if_neg (by rw [h]; simp), BitVec.xor_zero]
theorem stpN_low {v : W32} : ∀ n, (∀ i, i < n → v.getLsbD i = false) → stpN n v = v >>> n
  | 0, _ => by simp [stpN]
  | n + 1, h => by
    rw [stpN, stpN_low n fun i hi => h i (by omega), stp_even (by rw [BitVec.getLsbD_ushiftRight]; exact h _ (by omega))]
    rw [BitVec.shiftRight_add]
theorem stp_four (v : W32) : stpN 4 v = stpN 4 (v &&& 15#32) ^^^ (v >>> 4) := by
  have h1 : v = (v &&& 15#32) ^^^ (v &&& ~~~15#32) := by
    apply BitVec.eq_of_getLsbD_eq
    intro i hi
    simp only [BitVec.getLsbD_xor, BitVec.getLsbD_and, BitVec.getLsbD_not]
    cases v.getLsbD i <;> cases (15#32).getLsbD i <;> simp [hi]
  have h2 : stpN 4 (v &&& ~~~15#32) = v >>> 4 := by
    rw [stpN_low 4]
    · apply BitVec.eq_of_getLsbD_eq
      intro i hi
      simp only [BitVec.getLsbD_ushiftRight, BitVec.getLsbD_and, BitVec.getLsbD_not]
      by_cases h : 4 + i < 32
      · have : (15#32).getLsbD (4 + i) = false := by
          rw [BitVec.getLsbD_ofNat]
          have : Nat.testBit 15 (4 + i) = false := Nat.testBit_lt_two_pow (Nat.lt_of_lt_of_le (by decide : 15 < 2 ^ 4) (Nat.pow_le_pow_right (by decide) (by omega)))
          simp [this]
        rw [this]
        simp only [h, decide_true, Bool.not_false, Bool.and_true]
      · rw [BitVec.getLsbD_of_ge v (4 + i) (by omega)]
        simp
    · intro i hi
      have : (15#32).getLsbD i = true := by
        match i, hi with
        | 0, _ => rfl
        | 1, _ => rfl
        | 2, _ => rfl
        | 3, _ => rfl
      rw [BitVec.getLsbD_and, BitVec.getLsbD_not, this]
      simp
  conv => lhs; rw [h1, stpN_xor, h2]
theorem stpN_add (v : W32) : ∀ m n, stpN (m + n) v = stpN m (stpN n v)
  | 0, n => by rw [Nat.zero_add]; rfl
  | m + 1, n => by rw [Nat.succ_add, stpN, stpN_add v m n]; rfl
def ofB (b : UInt8) : W32 := BitVec.ofNat 32 b.toNat
/-- One byte. -/
def upd (v : W32) (c : UInt8) : W32 := stpN 8 (v ^^^ ofB c)
def half4 (v : W32) : W32 := stpN 4 (v &&& 15#32) ^^^ (v >>> 4)
theorem upd_eq (v : W32) (c : UInt8) : upd v c = half4 (half4 (v ^^^ ofB c)) := by
  rw [half4, ← stp_four, half4, ← stp_four, ← stpN_add]
  rfl
/-- A sum. -/
def crcB (l : List UInt8) : W32 := ~~~ (l.foldl upd 4294967295#32)
/-! The operations. -/
theorem ofW (a : W32) : BitVec.ofInt 32 (a.toNat : Int) = a := by
  rw [BitVec.ofInt_natCast, BitVec.ofNat_toNat]
  simp
theorem wrapW (a : W32) : IntKind.u32.wrap (a.toNat : Int) = (a.toNat : Int) := by
  have := a.isLt
  simp only [IntKind.wrap, IntKind.bits, IntKind.signed]
  simp
  omega
theorem bin_xorW (a b : W32) : binV .xor (vW a) (vW b) = some (vW (a ^^^ b)) := by
  simp only [binV, vW]
  rw [if_pos trivial]
  have : (BitVec.ofInt IntKind.u32.bits (a.toNat : Int) ^^^ BitVec.ofInt IntKind.u32.bits (b.toNat : Int)).toNat = (a ^^^ b).toNat := by
    show (BitVec.ofInt 32 (a.toNat : Int) ^^^ BitVec.ofInt 32 (b.toNat : Int)).toNat = _
    rw [ofW, ofW]
  rw [this, wrapW]
theorem bin_andW (a b : W32) : binV .and (vW a) (vW b) = some (vW (a &&& b)) := by
  simp only [binV, vW]
  rw [if_pos trivial]
  have : (BitVec.ofInt IntKind.u32.bits (a.toNat : Int) &&& BitVec.ofInt IntKind.u32.bits (b.toNat : Int)).toNat = (a &&& b).toNat := by
    show (BitVec.ofInt 32 (a.toNat : Int) &&& BitVec.ofInt 32 (b.toNat : Int)).toNat = _
    rw [ofW, ofW]
  rw [this, wrapW]
theorem bin_shrW (a : W32) (k : Nat) (hk : k ≤ 32) : binV .shr (vW a) (.int .u64 (k : Int)) = some (vW (a >>> k)) := by
  simp only [binV, vW]
  rw [if_pos (by omega)]
  congr 2
  have h1 : min ((k : Int)).toNat IntKind.u32.bits = k := by simp [IntKind.bits]; omega
  rw [h1, BitVec.toNat_ushiftRight, Nat.shiftRight_eq_div_pow]
  rw [Int.fdiv_eq_ediv_of_nonneg _ (by exact_mod_cast Nat.zero_le _)]
  exact_mod_cast rfl
theorem u8_32 (c : UInt8) : Value.int .u32 (IntKind.u32.wrap (c.toNat : Int)) = vW (ofB c) := by
  have h := c.toNat_lt
  have h2 : (ofB c).toNat = c.toNat := by simp [ofB]
  have := wrapW (ofB c)
  rw [h2] at this
  rw [vW, h2, this]
theorem W_1 : ((4294967295#32).toNat : Int) = 4294967295 := by decide
theorem F83 : Fun Try.prog 83 14 v83 c83 o83 := Fun.mk' Try.func83 Try.ntmps83 (by kernel_rfl) (by kernel_rfl) s83 q83
theorem F85 : Fun Try.prog 85 11 v85 c85 o85 := Fun.mk' Try.func85 Try.ntmps85 (by kernel_rfl) (by kernel_rfl) s85 q85
theorem F80 : Fun Try.prog 80 14 v80 c80 o80 := Fun.mk' Try.func80 Try.ntmps80 (by kernel_rfl) (by kernel_rfl) s80 q80
theorem bit0 (v : W32) : v.getLsbD 0 = true ↔ v.toNat % 2 = 1 := by
  rw [BitVec.getLsbD, Nat.testBit_zero]
  simp
theorem bin_quoW2 (v : W32) : binV .quo (vW v) (.int .u32 2) = some (vW (v >>> 1)) := by
  have h := v.isLt
  refine (bin_quo .u32 v.toNat 2 (by decide) (by simp [IntKind.max, IntKind.signed, IntKind.bits]; omega) rfl).trans ?_
  rw [vW, BitVec.toNat_ushiftRight, Nat.shiftRight_eq_div_pow]
theorem bin_remW2 (v : W32) : binV .rem (vW v) (.int .u32 2) = some (.int .u32 ((v.toNat % 2 : Nat) : Int)) := bin_rem .u32 v.toNat 2 (by decide)
theorem bin_xorP (v : W32) : binV .xor (vW v) (.int .u32 3988292384) = some (vW (v ^^^ poly)) := bin_xorW v poly
theorem bin_eql1 (n : Nat) : binV .eql (.int .u32 (n : Int)) (.int .u32 1) = some (.bool (decide (n = 1))) := by
  simp only [binV]
  rw [if_pos trivial]
  congr 2
  simp
  omega
theorem step_ok (v : W32) (G : Nat → Option Obj) : FnS Try.prog 85 #[vW v] G (vW (stp v)) := by
  refine F85.fnS (by simp) (go_of ?_)
  unfold c85
  (repeat first | (with_reducible intro _) | refine go_seq ?_ | refine go_skip ?_ | refine go_lab ?_ | refine go_blk ?_ | refine go_b ?_ | refine go_n ?_ | refine go_scp ?_); refine go_r 0 0 (by decide) ?_; (try simp -implicitDefEqProofs only [kR_e, kQ_e, push_cast, Nat.reduceBEq, Nat.reduceAdd, Nat.reduceSub, Nat.reduceMul, Nat.reduceLT, Nat.reduceLeDiff, Nat.reduceEqDiff, reduceIte, Bool.not_true, Bool.not_false, true_and, and_true, Option.map_some, Option.bind_some, Int.toNat_natCast, c85r0])
  have hr := bin_remW2 v
  generalize hn : v.toNat % 2 = n at hr
  (repeat first | (with_reducible intro _) | refine go_seq ?_ | refine go_skip ?_ | refine go_lab ?_ | refine go_blk ?_ | refine go_b ?_ | refine go_n ?_ | refine go_scp ?_); refine go_r 3 5 (by decide) ?_; (try simp -implicitDefEqProofs only [kR_e, kQ_e, push_cast, Nat.reduceBEq, Nat.reduceAdd, Nat.reduceSub, Nat.reduceMul, Nat.reduceLT, Nat.reduceLeDiff, Nat.reduceEqDiff, reduceIte, Bool.not_true, Bool.not_false, true_and, and_true, Option.map_some, Option.bind_some, Int.toNat_natCast, c85r1, hr, bin_eql1])
  (repeat first | (with_reducible intro _) | refine go_seq ?_ | refine go_skip ?_ | refine go_lab ?_ | refine go_blk ?_ | refine go_b ?_ | refine go_n ?_ | refine go_scp ?_); refine go_c ?_; (try simp -implicitDefEqProofs only [kR_e, kQ_e, push_cast, Nat.reduceBEq, Nat.reduceAdd, Nat.reduceSub, Nat.reduceMul, Nat.reduceLT, Nat.reduceLeDiff, Nat.reduceEqDiff, reduceIte, Bool.not_true, Bool.not_false, true_and, and_true, Option.map_some, Option.bind_some, Int.toNat_natCast])
  refine gb (fun h1 => ?_) (fun h1 => ?_)
  · (repeat first | (with_reducible intro _) | refine go_seq ?_ | refine go_skip ?_ | refine go_lab ?_ | refine go_blk ?_ | refine go_b ?_ | refine go_n ?_ | refine go_scp ?_); refine go_r 6 9 (by decide) ?_; (try simp -implicitDefEqProofs only [kR_e, kQ_e, push_cast, Nat.reduceBEq, Nat.reduceAdd, Nat.reduceSub, Nat.reduceMul, Nat.reduceLT, Nat.reduceLeDiff, Nat.reduceEqDiff, reduceIte, Bool.not_true, Bool.not_false, true_and, and_true, Option.map_some, Option.bind_some, Int.toNat_natCast, c85r2, bin_quoW2, bin_xorP])
    (repeat first | (with_reducible intro _) | refine go_seq ?_ | refine go_skip ?_ | refine go_lab ?_ | refine go_blk ?_ | refine go_b ?_ | refine go_n ?_ | refine go_scp ?_)
    refine go_ret (retQ_v rfl ?_); simp only [push_cast, Nat.reduceBEq]
    rw [stp, if_pos ((bit0 v).2 (by rw [hn]; simpa using h1))]
  · (repeat first | refine go_skip ?_ | refine go_b ?_)
    (repeat first | (with_reducible intro _) | refine go_seq ?_ | refine go_skip ?_ | refine go_lab ?_ | refine go_blk ?_ | refine go_b ?_ | refine go_n ?_ | refine go_scp ?_); refine go_r 9 11 (by decide) ?_; (try simp -implicitDefEqProofs only [kR_e, kQ_e, push_cast, Nat.reduceBEq, Nat.reduceAdd, Nat.reduceSub, Nat.reduceMul, Nat.reduceLT, Nat.reduceLeDiff, Nat.reduceEqDiff, reduceIte, Bool.not_true, Bool.not_false, true_and, and_true, Option.map_some, Option.bind_some, Int.toNat_natCast, c85r3, bin_quoW2])
    (repeat first | (with_reducible intro _) | refine go_seq ?_ | refine go_skip ?_ | refine go_lab ?_ | refine go_blk ?_ | refine go_b ?_ | refine go_n ?_ | refine go_scp ?_)
    refine go_ret (retQ_v rfl ?_); simp only [push_cast, Nat.reduceBEq]
    rw [stp, if_neg (fun h => by have := (bit0 v).1 h; rw [hn] at this; simp [this] at h1), BitVec.xor_zero]
theorem steps_ok (v : W32) (n : Nat) (hn : n ≤ 1000) (G : Nat → Option Obj) : FnS Try.prog 80 #[vW v, .int .i64 (n : Int)] G (vW (stpN n v)) := by
  refine F80.fnS (by simp) (go_of ?_)
  unfold c80
  (repeat first | (with_reducible intro _) | refine go_seq ?_ | refine go_skip ?_ | refine go_lab ?_ | refine go_blk ?_ | refine go_b ?_ | refine go_n ?_ | refine go_scp ?_); refine go_r 0 0 (by decide) ?_; (try simp -implicitDefEqProofs only [kR_e, kQ_e, push_cast, Nat.reduceBEq, Nat.reduceAdd, Nat.reduceSub, Nat.reduceMul, Nat.reduceLT, Nat.reduceLeDiff, Nat.reduceEqDiff, reduceIte, Bool.not_true, Bool.not_false, true_and, and_true, Option.map_some, Option.bind_some, Int.toNat_natCast, c80r0])
  (repeat first | (with_reducible intro _) | refine go_seq ?_ | refine go_skip ?_ | refine go_lab ?_ | refine go_blk ?_ | refine go_b ?_ | refine go_n ?_ | refine go_scp ?_); refine go_r 0 0 (by decide) ?_; (try simp -implicitDefEqProofs only [kR_e, kQ_e, push_cast, Nat.reduceBEq, Nat.reduceAdd, Nat.reduceSub, Nat.reduceMul, Nat.reduceLT, Nat.reduceLeDiff, Nat.reduceEqDiff, reduceIte, Bool.not_true, Bool.not_false, true_and, and_true, Option.map_some, Option.bind_some, Int.toNat_natCast, c80r1])
  (repeat first | (with_reducible intro _) | refine go_seq ?_ | refine go_skip ?_ | refine go_lab ?_ | refine go_blk ?_ | refine go_b ?_ | refine go_n ?_ | refine go_scp ?_)
  refine go_loop (fun e h => ∃ k : Nat, k ≤ n ∧ e 5 = .int .i64 k ∧ e 1 = .int .i64 n ∧ e 0 = vW (stpN k v) ∧ h = ⟨G, [], []⟩) (fun e h => n - iv (e 5)) ?_ ?_
  · exact ⟨0, Nat.zero_le _, by (try simp -implicitDefEqProofs only [kR_e, kQ_e, push_cast, Nat.reduceBEq, Nat.reduceAdd, Nat.reduceSub, Nat.reduceMul, Nat.reduceLT, Nat.reduceLeDiff, Nat.reduceEqDiff, reduceIte, Bool.not_true, Bool.not_false, true_and, and_true, Option.map_some, Option.bind_some, Int.toNat_natCast]), by (try simp -implicitDefEqProofs only [kR_e, kQ_e, push_cast, Nat.reduceBEq, Nat.reduceAdd, Nat.reduceSub, Nat.reduceMul, Nat.reduceLT, Nat.reduceLeDiff, Nat.reduceEqDiff, reduceIte, Bool.not_true, Bool.not_false, true_and, and_true, Option.map_some, Option.bind_some, Int.toNat_natCast]), by (try simp -implicitDefEqProofs only [kR_e, kQ_e, push_cast, Nat.reduceBEq, Nat.reduceAdd, Nat.reduceSub, Nat.reduceMul, Nat.reduceLT, Nat.reduceLeDiff, Nat.reduceEqDiff, reduceIte, Bool.not_true, Bool.not_false, true_and, and_true, Option.map_some, Option.bind_some, Int.toNat_natCast]); rfl, rfl⟩
  · rintro e h ⟨k, hk, e5, e1, e0, rfl⟩
    refine go_keep [0, 1, 5] ?_
    (try simp -implicitDefEqProofs only [kR_e, kQ_e, push_cast, Nat.reduceBEq, Nat.reduceAdd, Nat.reduceSub, Nat.reduceMul, Nat.reduceLT, Nat.reduceLeDiff, Nat.reduceEqDiff, reduceIte, Bool.not_true, Bool.not_false, true_and, and_true, Option.map_some, Option.bind_some, Int.toNat_natCast, e0, e1, e5])
    (repeat first | (with_reducible intro _) | refine go_seq ?_ | refine go_skip ?_ | refine go_lab ?_ | refine go_blk ?_ | refine go_b ?_ | refine go_n ?_ | refine go_scp ?_); refine go_r 6 8 (by decide) ?_; (try simp -implicitDefEqProofs only [kR_e, kQ_e, push_cast, Nat.reduceBEq, Nat.reduceAdd, Nat.reduceSub, Nat.reduceMul, Nat.reduceLT, Nat.reduceLeDiff, Nat.reduceEqDiff, reduceIte, Bool.not_true, Bool.not_false, true_and, and_true, Option.map_some, Option.bind_some, Int.toNat_natCast, c80r2])
    (repeat first | (with_reducible intro _) | refine go_seq ?_ | refine go_skip ?_ | refine go_lab ?_ | refine go_blk ?_ | refine go_b ?_ | refine go_n ?_ | refine go_scp ?_); refine go_c ?_; (try simp -implicitDefEqProofs only [kR_e, kQ_e, push_cast, Nat.reduceBEq, Nat.reduceAdd, Nat.reduceSub, Nat.reduceMul, Nat.reduceLT, Nat.reduceLeDiff, Nat.reduceEqDiff, reduceIte, Bool.not_true, Bool.not_false, true_and, and_true, Option.map_some, Option.bind_some, Int.toNat_natCast])
    refine gb (fun h1 => ?_) (fun h1 => ?_)
    · have hkn : k < n := by simpa using h1
      have hw3 := inc_i k n (by omega) (by unfold maxLen; omega)
      (repeat first | (with_reducible intro _) | refine go_seq ?_ | refine go_skip ?_ | refine go_lab ?_ | refine go_blk ?_ | refine go_b ?_ | refine go_n ?_ | refine go_scp ?_); refine go_r 11 13 (by decide) ?_; (try simp -implicitDefEqProofs only [kR_e, kQ_e, push_cast, Nat.reduceBEq, Nat.reduceAdd, Nat.reduceSub, Nat.reduceMul, Nat.reduceLT, Nat.reduceLeDiff, Nat.reduceEqDiff, reduceIte, Bool.not_true, Bool.not_false, true_and, and_true, Option.map_some, Option.bind_some, Int.toNat_natCast, c80r3])
      refine (step_ok (stpN k v) G _ _).mono ?_; rintro _ _ ⟨rfl, rfl⟩; (try simp -implicitDefEqProofs only [kR_e, kQ_e, push_cast, Nat.reduceBEq, Nat.reduceAdd, Nat.reduceSub, Nat.reduceMul, Nat.reduceLT, Nat.reduceLeDiff, Nat.reduceEqDiff, reduceIte, Bool.not_true, Bool.not_false, true_and, and_true, Option.map_some, Option.bind_some, Int.toNat_natCast])
      (repeat first | (with_reducible intro _) | refine go_seq ?_ | refine go_skip ?_ | refine go_lab ?_ | refine go_blk ?_ | refine go_b ?_ | refine go_n ?_ | refine go_scp ?_); refine go_r 9 11 (by decide) ?_; (try simp -implicitDefEqProofs only [kR_e, kQ_e, push_cast, Nat.reduceBEq, Nat.reduceAdd, Nat.reduceSub, Nat.reduceMul, Nat.reduceLT, Nat.reduceLeDiff, Nat.reduceEqDiff, reduceIte, Bool.not_true, Bool.not_false, true_and, and_true, Option.map_some, Option.bind_some, Int.toNat_natCast, c80r4, hw3])
      (repeat first | (with_reducible intro _) | refine go_seq ?_ | refine go_skip ?_ | refine go_lab ?_ | refine go_blk ?_ | refine go_b ?_ | refine go_n ?_ | refine go_scp ?_)
      refine go_l ⟨⟨k + 1, by omega, by (try simp -implicitDefEqProofs only [kR_e, kQ_e, push_cast, Nat.reduceBEq, Nat.reduceAdd, Nat.reduceSub, Nat.reduceMul, Nat.reduceLT, Nat.reduceLeDiff, Nat.reduceEqDiff, reduceIte, Bool.not_true, Bool.not_false, true_and, and_true, Option.map_some, Option.bind_some, Int.toNat_natCast]), by (try simp -implicitDefEqProofs only [kR_e, kQ_e, push_cast, Nat.reduceBEq, Nat.reduceAdd, Nat.reduceSub, Nat.reduceMul, Nat.reduceLT, Nat.reduceLeDiff, Nat.reduceEqDiff, reduceIte, Bool.not_true, Bool.not_false, true_and, and_true, Option.map_some, Option.bind_some, Int.toNat_natCast]), by (try simp -implicitDefEqProofs only [kR_e, kQ_e, push_cast, Nat.reduceBEq, Nat.reduceAdd, Nat.reduceSub, Nat.reduceMul, Nat.reduceLT, Nat.reduceLeDiff, Nat.reduceEqDiff, reduceIte, Bool.not_true, Bool.not_false, true_and, and_true, Option.map_some, Option.bind_some, Int.toNat_natCast]); rfl, rfl⟩, ?_⟩
      (try simp -implicitDefEqProofs only [kR_e, kQ_e, push_cast, Nat.reduceBEq, Nat.reduceAdd, Nat.reduceSub, Nat.reduceMul, Nat.reduceLT, Nat.reduceLeDiff, Nat.reduceEqDiff, reduceIte, Bool.not_true, Bool.not_false, true_and, and_true, Option.map_some, Option.bind_some, Int.toNat_natCast])
      omega
    · have hkn : k = n := by simp at h1; omega
      subst hkn
      refine go_exit ?_
      (try simp -implicitDefEqProofs only [kR_e, kQ_e, push_cast, Nat.reduceBEq, Nat.reduceAdd, Nat.reduceSub, Nat.reduceMul, Nat.reduceLT, Nat.reduceLeDiff, Nat.reduceEqDiff, reduceIte, Bool.not_true, Bool.not_false, true_and, and_true, Option.map_some, Option.bind_some, Int.toNat_natCast])
      (repeat first | (with_reducible intro _) | refine go_seq ?_ | refine go_skip ?_ | refine go_lab ?_ | refine go_blk ?_ | refine go_b ?_ | refine go_n ?_ | refine go_scp ?_); refine go_r 13 14 (by decide) ?_; (try simp -implicitDefEqProofs only [kR_e, kQ_e, push_cast, Nat.reduceBEq, Nat.reduceAdd, Nat.reduceSub, Nat.reduceMul, Nat.reduceLT, Nat.reduceLeDiff, Nat.reduceEqDiff, reduceIte, Bool.not_true, Bool.not_false, true_and, and_true, Option.map_some, Option.bind_some, Int.toNat_natCast, c80r5])
      (repeat first | (with_reducible intro _) | refine go_seq ?_ | refine go_skip ?_ | refine go_lab ?_ | refine go_blk ?_ | refine go_b ?_ | refine go_n ?_ | refine go_scp ?_)
      refine go_ret (retQ_v rfl ?_); simp only [push_cast, Nat.reduceBEq]
end Go.Proofs.Ytdiccicokbbcoaa

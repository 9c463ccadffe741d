/- Parts of a proof, 16 texts in one file. No condition. -/
import Derived.Laws.Strings
import Derived.Test.YtfhheomeebejnaaM1
import Derived.Test.YtfhheomeebejnaaM2
import Derived.Test.YtfhheomeebejnaaM3

/- Bytes, part 2 of a proof: numbers as short as they go. No condition. -/
set_option linter.unusedSimpArgs false
set_option linter.unusedVariables false
namespace Go.Proofs.Ytfhheomeebejnaa
open Go Go.Kx
theorem F61 : Fun Try.prog 61 31 v61 c61 o61 := Fun.mk' Try.func61 Try.ntmps61 (by kernel_rfl) (by kernel_rfl) s61 q61
theorem F66 : Fun Try.prog 66 36 v66 c66 o66 := Fun.mk' Try.func66 Try.ntmps66 (by kernel_rfl) (by kernel_rfl) s66 q66

def zig (n : Int) : Nat := if 0 ≤ n then (2 * n).toNat else (-2 * n - 1).toNat
def vnat : Nat → Nat → List UInt8
  | 0, z => [UInt8.ofNat z]
  | f + 1, z => if z < 128 then [UInt8.ofNat z] else UInt8.ofNat (128 + z % 128) :: vnat f (z / 128)
/-- A number's bytes. -/
def pvB (n : Int) : List UInt8 := vnat 9 (zig n)
theorem vnat_len : ∀ f z, (vnat f z).length ≤ f + 1 ∧ 1 ≤ (vnat f z).length
  | 0, z => by simp [vnat]
  | f + 1, z => by
    unfold vnat
    split
    · simp
    · have := vnat_len f (z / 128)
      simp
      omega
theorem pvB_len (n : Int) : (pvB n).length ≤ 10 := (vnat_len 9 _).1
theorem zig_lt {n : Int} (h : I64 n) : zig n < 18446744073709551616 := by
  unfold zig I64 at *
  split <;> omega
theorem vnat_lt {f z : Nat} (h : z < 128) : vnat f z = [UInt8.ofNat z] := by
  cases f with
  | zero => rfl
  | succ f => exact if_pos h
/-- Out of what was put, and what is left. -/
def Puts (p : List UInt8) (z0 : Nat) (zs : List UInt8) (z : Nat) : Prop := ∃ f, f ≤ 9 ∧ zs.length + f = p.length + 9 ∧ z < 2 * 128 ^ f ∧ zs ++ vnat f z = p ++ vnat 9 z0
theorem puts_zero (p : List UInt8) {z0 : Nat} (h : z0 < 18446744073709551616) : Puts p z0 p z0 := ⟨9, Nat.le_refl _, rfl, by omega, rfl⟩
theorem puts_end {p zs : List UInt8} {z0 z : Nat} (h : Puts p z0 zs z) (hz : z < 128) : zs ++ [UInt8.ofNat z] = p ++ vnat 9 z0 := by
  obtain ⟨f, _, _, _, h⟩ := h
  rw [← h, vnat_lt hz]
theorem puts_more {p zs : List UInt8} {z0 z : Nat} (h : Puts p z0 zs z) (hz : ¬ z < 128) : Puts p z0 (zs ++ [UInt8.ofNat (128 + z % 128)]) (z / 128) := by
  obtain ⟨f, h1, h2, h3, h4⟩ := h
  cases f with
  | zero => simp at h3; omega
  | succ f =>
    refine ⟨f, by omega, by simp; omega, by rw [Nat.pow_succ] at h3; omega, ?_⟩
    rw [← h4, vnat, if_neg hz]
    simp
theorem puts_len {p zs : List UInt8} {z0 z : Nat} (h : Puts p z0 zs z) : zs.length ≤ p.length + 9 := by
  obtain ⟨f, h1, h2, _⟩ := h
  omega
theorem or_128 (z : Nat) : binV .or (.int .u8 (IntKind.u8.wrap (z : Int))) (.int .u8 128) = some (.int .u8 ((UInt8.ofNat (128 + z % 128)).toNat : Int)) := by
  have key : ∀ b : Fin 256, (BitVec.ofInt 8 ((b.val : Nat) : Int) ||| BitVec.ofInt 8 128).toNat = 128 + b.val % 128 := by decide +kernel
  have h1 : IntKind.u8.wrap (z : Int) = ((z % 256 : Nat) : Int) := by rw [IntKind.wrap_u8]; omega
  have h2 := key ⟨z % 256, Nat.mod_lt _ (by omega)⟩
  rw [h1]
  simp only [binV]
  rw [if_pos trivial]
  have h3 : (BitVec.ofInt IntKind.u8.bits ((z % 256 : Nat) : Int) ||| BitVec.ofInt IntKind.u8.bits 128).toNat = 128 + z % 128 := by
    refine h2.trans ?_
    dsimp only
    omega
  rw [h3]
  simp [IntKind.wrap_u8]
theorem u8_nat (z : Nat) : IntKind.u8.wrap (z : Int) = ((UInt8.ofNat z).toNat : Int) := by
  rw [IntKind.wrap_u8]
  simp
theorem shr_7 (z : Nat) : binV .shr (.int .u64 (z : Int)) (.int .u64 7) = some (.int .u64 ((z / 128 : Nat) : Int)) := by
  simp [binV, IntKind.bits]
  rw [Int.fdiv_eq_ediv_of_nonneg _ (by omega)]
theorem shl_1 (n : Int) : binV .shl (.int .u64 (IntKind.u64.wrap n)) (.int .u64 1) = some (.int .u64 (IntKind.u64.wrap (IntKind.u64.wrap n * 2))) := by
  simp [binV, IntKind.bits]
def sgn (n : Int) : Int := if 0 ≤ n then 0 else -1
theorem shr_63 {n : Int} (h : I64 n) : binV .shr (.int .i64 n) (.int .u64 63) = some (.int .i64 (sgn n)) := by
  have h1 : n.fdiv 9223372036854775808 = sgn n := by
    rw [Int.fdiv_eq_ediv_of_nonneg _ (by omega)]
    unfold sgn I64 at *
    split <;> omega
  simp [binV, IntKind.bits, h1]
theorem xor_zig {n : Int} (h : I64 n) : binV .xor (.int .u64 (IntKind.u64.wrap (IntKind.u64.wrap n * 2))) (.int .u64 (IntKind.u64.wrap (sgn n))) = some (.int .u64 (zig n : Int)) := by
  have hz := zig_lt h
  have key : (BitVec.ofInt 64 (IntKind.u64.wrap (IntKind.u64.wrap n * 2)) ^^^ BitVec.ofInt 64 (IntKind.u64.wrap (sgn n))).toNat = zig n := by
    unfold I64 at h
    by_cases h0 : 0 ≤ n
    · have e1 : IntKind.u64.wrap (IntKind.u64.wrap n * 2) = 2 * n := by rw [IntKind.wrap_u64, IntKind.wrap_u64]; omega
      have e2 : IntKind.u64.wrap (sgn n) = 0 := by rw [sgn, if_pos h0]; rfl
      rw [e1, e2]
      have : BitVec.ofInt 64 0 = 0#64 := rfl
      rw [this, BitVec.xor_zero, BitVec.toNat_ofInt]
      simp [zig, h0]
      omega
    · have e1 : IntKind.u64.wrap (IntKind.u64.wrap n * 2) = (2 * n) % 18446744073709551616 := by rw [IntKind.wrap_u64, IntKind.wrap_u64]; omega
      have e2 : IntKind.u64.wrap (sgn n) = 18446744073709551615 := by rw [sgn, if_neg h0]; rfl
      rw [e1, e2]
      have : BitVec.ofInt 64 18446744073709551615 = BitVec.allOnes 64 := by decide
      rw [this, BitVec.xor_allOnes, BitVec.toNat_not, BitVec.toNat_ofInt]
      simp [zig, h0]
      omega
  simp only [binV]
  rw [if_pos trivial]
  have e3 : (BitVec.ofInt IntKind.u64.bits (IntKind.u64.wrap (IntKind.u64.wrap n * 2)) ^^^ BitVec.ofInt IntKind.u64.bits (IntKind.u64.wrap (sgn n))).toNat = zig n := key
  rw [e3, IntKind.wrap_u64]
  congr 2
  omega
theorem PutVar_ok (l : List UInt8) (n : Int) (hn : I64 n) (v : Value) (G : Nat → Option Obj) (hl : SB G v l) (hb : l.length ≤ 100000) :
    FnO Try.prog 61 #[v, .int .i64 n] G [] (fun _ L' r => OwnB (l ++ pvB n) L' r) := by
  refine F61.fnO (by simp) noRegs_nil (go_of ?_)
  have hl0 := hl
  obtain ⟨A, c, rfl, hc, hm, hA⟩ := hl
  unfold c61
  (intros; try refine go_st ?_); refine go_r 0 0 (by decide) ?_; (refine sJ c61r0.eq_1 ?_; try with_reducible exact True.intro)
  (intros; try refine go_st ?_); refine go_r 7 14 (by decide) ?_; (refine sJ4 c61r1.eq_1 @shl_1 (shr_63 hn) (xor_zig hn) ?_; try with_reducible exact True.intro)
  (intros; try refine go_st ?_); refine go_r 14 16 (by decide) ?_; (refine sJ c61r2.eq_1 ?_; try with_reducible exact True.intro)
  refine (Clone_ok l _ G hl0 (by omega) _ []).mono ?_
  rintro r h' ⟨G1, L', rfl, hg1, ys, hys, rfl⟩
  (refine sI ?_; try with_reducible exact True.intro)
  (intros; try refine go_st ?_)
  refine go_loop (fun e h => ∃ (z : Nat) (zs : List UInt8) (zc : List Value) (u : Value), (Puts l (zig n) zs z ∧ Cells UE 1 zs zc) ∧ e 5 = .int .u64 (z : Int) ∧ e 6 = u ∧ h.G = G1 ∧ h.D = [] ∧ [Item.row u 5 1 zs.length zc].Sublist h.L) (fun e h => iv (e 5)) ?_ ?_
  · exact ⟨zig n, l, ys, _, ⟨puts_zero l (zig_lt hn), hys⟩, eE, eE, rfl, rfl, List.Sublist.refl _⟩
  · rintro e ⟨G', L, D⟩ ⟨z, zs, zc, u, ⟨hp, hcs⟩, e5, e6, hG, hD, hL⟩
    dsimp only at hG hD hL
    subst hG hD
    refine go_ghost (ghost_sub hL) ?_
    refine go_keep [5, 6] ?_
    (refine sJ2 @e5 @e6 ?_; try with_reducible exact True.intro)
    have hlen := puts_len hp
    (intros; try refine go_st ?_); refine go_r 16 17 (by decide) ?_; (refine sJ c61r3.eq_1 ?_; try with_reducible exact True.intro)
    (intros; try refine go_st ?_); refine go_c ?_; (refine sI ?_; try with_reducible exact True.intro)
    refine gb (fun ht => ?_) (fun ht => ?_)
    · have hz : ¬ z < 128 := by simp at ht; omega
      (intros; try refine go_st ?_); refine go_r 20 26 (by decide) ?_; (refine sJ2 c61r4.eq_1 @or_128 ?_; try with_reducible exact True.intro)
      intro bk hbk
      refine app8 (L1 := []) (L2 := []) rfl rfl hcs (by omega) fun A' c' zc' hzc => ?_
      (refine sI ?_; try with_reducible exact True.intro)
      (intros; try refine go_st ?_); refine go_r 18 20 (by decide) ?_; (refine sJ2 c61r5.eq_1 @shr_7 ?_; try with_reducible exact True.intro)
      (intros; try refine go_st ?_)
      refine go_l ⟨⟨z / 128, _, zc', _, ⟨puts_more hp hz, hzc⟩, eE, eE, rfl, rfl, .cons _ (List.Sublist.refl _)⟩, ?_⟩
      (refine sI ?_; try with_reducible exact True.intro)
      simp [iv]
      omega
    · have hz : z < 128 := by simp at ht; omega
      refine go_exit ?_
      (refine sI ?_; try with_reducible exact True.intro)
      (intros; try refine go_st ?_); refine go_r 26 31 (by decide) ?_; (refine sJ2 c61r6.eq_1 @u8_nat ?_; try with_reducible exact True.intro)
      intro bk hbk
      refine app8 (L1 := []) (L2 := []) rfl rfl hcs (by omega) fun A' c' zc' hzc => ?_
      (refine sI ?_; try with_reducible exact True.intro)
      (intros; try refine go_st ?_)
      rw [puts_end hp hz] at hzc ⊢
      refine go_ret (retQ_o _ rfl (.cons _ (List.Sublist.refl _)) (noRegs_row noRegs_nil) ?_)
      exact ⟨zc', hzc, rfl⟩
theorem RPutVar_ok (l : List UInt8) (n : Int) (hn : I64 n) (v : Value) (G : Nat → Option Obj) (hl : SB G v l) (hb : l.length ≤ 100000) :
    FnO Try.prog 66 #[v, .int .i64 n] G [] (fun _ L' r => OwnB (l ++ pvB n) L' r) := by
  refine F66.fnO (by simp) noRegs_nil (go_of ?_)
  have hl0 := hl
  have hn0 := hn
  unfold I64 at hn
  obtain ⟨A, c, rfl, hc, hm, hA⟩ := hl
  unfold c66
  (intros; try refine go_st ?_); refine go_r 0 0 (by decide) ?_; (refine sJ c66r0.eq_1 ?_; try with_reducible exact True.intro)
  (intros; try refine go_st ?_); refine go_r 7 10 (by decide) ?_; (refine sJ2 c66r1.eq_1 @bin_mul ?_; try with_reducible exact True.intro)
  have hrest : ∀ (e : Env), e 0 = .slice A l.length c → e 5 = .int .u64 (zig n : Int) → go none Try.prog 36 v66.1 v66.2 (retQ o66 fun v h => OwnB (l ++ pvB n) h.L v) [Td.s ((SC.reg false c66r4).seq ((SC.blk 0 (((SC.reg false c66r5).seq (SC.cond (O.t 21) SC.skip (SC.exit 0))).seq (SC.blk 1 ((SC.reg false c66r6).seq (SC.reg false c66r7)))).loop).seq ((SC.reg false c66r8).seq SC.ret)))] e ⟨G, [], []⟩ := fun e e0 e5 => by
    refine go_keep [0, 5] ?_
    (refine sJ2 @e0 @e5 ?_; try with_reducible exact True.intro)
    (intros; try refine go_st ?_); refine go_r 18 20 (by decide) ?_; (refine sJ c66r4.eq_1 ?_; try with_reducible exact True.intro)
    refine (Copy_ok l _ G hl0 (by omega) _ []).mono ?_
    rintro r h' ⟨G1, L', rfl, hg1, ys, hys, rfl⟩
    (refine sI ?_; try with_reducible exact True.intro)
    (intros; try refine go_st ?_)
    refine go_loop (fun e h => ∃ (z : Nat) (zs : List UInt8) (zc : List Value) (u : Value), (Puts l (zig n) zs z ∧ Cells UE 1 zs zc ∧ z < 18446744073709551616) ∧ e 5 = .int .u64 (z : Int) ∧ e 6 = u ∧ h.G = G1 ∧ h.D = [] ∧ [Item.row u 5 1 zs.length zc].Sublist h.L) (fun e h => iv (e 5)) ?_ ?_
    · exact ⟨zig n, l, ys, _, ⟨puts_zero l (zig_lt hn0), hys, zig_lt hn0⟩, eE, eE, rfl, rfl, List.Sublist.refl _⟩
    · rintro e ⟨G', L, D⟩ ⟨z, zs, zc, u, ⟨hp, hcs, hzb⟩, e5, e6, hG, hD, hL⟩
      dsimp only at hG hD hL
      subst hG hD
      refine go_ghost (ghost_sub hL) ?_
      refine go_keep [5, 6] ?_
      (refine sJ2 @e5 @e6 ?_; try with_reducible exact True.intro)
      have hlen := puts_len hp
      (intros; try refine go_st ?_); refine go_r 20 21 (by decide) ?_; (refine sJ c66r5.eq_1 ?_; try with_reducible exact True.intro)
      (intros; try refine go_st ?_); refine go_c ?_; (refine sI ?_; try with_reducible exact True.intro)
      refine gb (fun ht => ?_) (fun ht => ?_)
      · have hz : ¬ z < 128 := by simp at ht; omega
        have hpm := puts_more hp hz
        have hdz : z / 128 < z := by omega
        have hq : binV .quo (.int .u64 (z : Int)) (.int .u64 128) = some (.int .u64 ((z / 128 : Nat) : Int)) := bin_quo .u64 z 128 (by decide) (by simp [IntKind.max, IntKind.signed, IntKind.bits]; omega) rfl
        generalize z / 128 = q at hq hpm hdz
        have hr : binV .rem (.int .u64 (z : Int)) (.int .u64 128) = some (.int .u64 ((z : Int) % 128)) := bin_rem .u64 z 128 (by decide)
        have hw : IntKind.u8.wrap (IntKind.u64.wrap (128 + (z : Int) % 128)) = ((UInt8.ofNat (128 + z % 128)).toNat : Int) := by
          rw [← u8_nat, IntKind.wrap_u64]
          congr 1
          omega
        (intros; try refine go_st ?_); refine go_r 22 29 (by decide) ?_; (refine sJ3 c66r6.eq_1 @hr @bin_add ?_; try with_reducible exact True.intro)
        intro bk hbk
        refine app8 (L1 := []) (L2 := []) rfl hw hcs (by omega) fun A' c' zc' hzc => ?_
        (refine sI ?_; try with_reducible exact True.intro)
        (intros; try refine go_st ?_); refine go_r 29 31 (by decide) ?_; (refine sJ2 c66r7.eq_1 @hq ?_; try with_reducible exact True.intro)
        (intros; try refine go_st ?_)
        refine go_l ⟨⟨q, _, zc', _, ⟨hpm, hzc, by omega⟩, eE, eE, rfl, rfl, .cons _ (List.Sublist.refl _)⟩, ?_⟩
        (refine sI ?_; try with_reducible exact True.intro)
        omega
      · have hz : z < 128 := by simp at ht; omega
        refine go_exit ?_
        (refine sI ?_; try with_reducible exact True.intro)
        (intros; try refine go_st ?_); refine go_r 31 36 (by decide) ?_; (refine sJ2 c66r8.eq_1 @u8_nat ?_; try with_reducible exact True.intro)
        intro bk hbk
        refine app8 (L1 := []) (L2 := []) rfl rfl hcs (by omega) fun A' c' zc' hzc => ?_
        (refine sI ?_; try with_reducible exact True.intro)
        (intros; try refine go_st ?_)
        rw [puts_end hp hz] at hzc ⊢
        refine go_ret (retQ_o _ rfl (.cons _ (List.Sublist.refl _)) (noRegs_row noRegs_nil) ?_)
        exact ⟨zc', hzc, rfl⟩
  (intros; try refine go_st ?_); refine go_r 10 11 (by decide) ?_; (refine sJ c66r2.eq_1 ?_; try with_reducible exact True.intro)
  (intros; try refine go_st ?_); refine go_c ?_; (refine sI ?_; try with_reducible exact True.intro)
  refine gb (fun ht => ?_) (fun ht => ?_)
  · have hz : IntKind.u64.wrap (IntKind.u64.wrap (2 * IntKind.u64.wrap (IntKind.i64.wrap (0 - IntKind.i64.wrap (n + 1)))) + 1) = (zig n : Int) := by
      have h0 : n < 0 := by simpa using ht
      have e1 : IntKind.i64.wrap (n + 1) = n + 1 := by rw [w64_id] <;> omega
      have e2 : IntKind.i64.wrap (0 - (n + 1)) = 0 - (n + 1) := by rw [w64_id] <;> omega
      rw [e1, e2]
      simp only [IntKind.wrap_u64, zig, if_neg (show ¬ 0 ≤ n by omega)]
      omega
    (intros; try refine go_st ?_); refine go_r 12 18 (by decide) ?_; (refine sJ4 c66r3.eq_1 @bin_mul @bin_add @hz ?_; try with_reducible exact True.intro)
    intro _
    (repeat first | refine go_skip ?_ | refine go_b ?_)
    refine hrest _ ?_ ?_ <;> (refine sI ?_; try with_reducible exact True.intro)
  · have hz : IntKind.u64.wrap (2 * IntKind.u64.wrap n) = (zig n : Int) := by
      have h0 : ¬ n < 0 := by simpa using ht
      simp only [IntKind.wrap_u64, zig, if_pos (show 0 ≤ n by omega)]
      omega
    (repeat first | refine go_skip ?_ | refine go_b ?_)
    refine hrest _ ?_ ?_ <;> (refine sJ @hz ?_; try with_reducible exact True.intro)
end Go.Proofs.Ytfhheomeebejnaa

/- Bytes, part 3 of a proof: texts, and records that may be. No condition. -/
set_option linter.unusedSimpArgs false
set_option linter.unusedVariables false
namespace Go.Proofs.Ytfhheomeebejnaa
open Go Go.Kx
theorem F79 : Fun Try.prog 79 9 v79 c79 o79 := Fun.mk' Try.func79 Try.ntmps79 (by kernel_rfl) (by kernel_rfl) s79 q79
theorem F84 : Fun Try.prog 84 9 v84 c84 o84 := Fun.mk' Try.func84 Try.ntmps84 (by kernel_rfl) (by kernel_rfl) s84 q84
theorem F80 : Fun Try.prog 80 11 v80 c80 o80 := Fun.mk' Try.func80 Try.ntmps80 (by kernel_rfl) (by kernel_rfl) s80 q80
theorem F85 : Fun Try.prog 85 11 v85 c85 o85 := Fun.mk' Try.func85 Try.ntmps85 (by kernel_rfl) (by kernel_rfl) s85 q85
theorem F60 : Fun Try.prog 60 33 v60 c60 o60 := Fun.mk' Try.func60 Try.ntmps60 (by kernel_rfl) (by kernel_rfl) s60 q60
theorem F83 : Fun Try.prog 83 39 v83 c83 o83 := Fun.mk' Try.func83 Try.ntmps83 (by kernel_rfl) (by kernel_rfl) s83 q83

def inO (n : Int) : Bool := decide (0 ≤ n) && decide (n ≤ 1099511627776)
theorem in_ok (n : Int) (G : Nat → Option Obj) : FnS Try.prog 79 #[.int .i64 n] G (.bool (inO n)) := by
  refine F79.fnS (by simp) (go_of ?_)
  unfold c79
  (intros; try refine go_st ?_); refine go_r 0 0 (by decide) ?_; (refine sJ c79r0.eq_1 ?_; try with_reducible exact True.intro)
  (intros; try refine go_st ?_); refine go_r 3 9 (by decide) ?_; (refine sJ c79r1.eq_1 ?_; try with_reducible exact True.intro)
  refine gd (fun h1 => ?_) (fun h1 => ?_)
  · (refine sI ?_; try with_reducible exact True.intro)
    (intros; try refine go_st ?_)
    refine go_ret (retQ_v rfl ?_); simp only [push_cast, Nat.reduceBEq]
    have : 0 ≤ n := by simpa using h1
    simp [inO, this]
  · (refine sI ?_; try with_reducible exact True.intro)
    (intros; try refine go_st ?_)
    refine go_ret (retQ_v rfl ?_); simp only [push_cast, Nat.reduceBEq]
    have : ¬ 0 ≤ n := by simpa using h1
    simp [inO, this]
theorem In_ok (n : Int) (G : Nat → Option Obj) : FnS Try.prog 84 #[.int .i64 n] G (.bool (inO n)) := by
  refine F84.fnS (by simp) (go_of ?_)
  unfold c84
  (intros; try refine go_st ?_); refine go_r 0 0 (by decide) ?_; (refine sJ c84r0.eq_1 ?_; try with_reducible exact True.intro)
  (intros; try refine go_st ?_); refine go_r 3 9 (by decide) ?_; (refine sJ c84r1.eq_1 ?_; try with_reducible exact True.intro)
  refine gd (fun h1 => ?_) (fun h1 => ?_)
  · (refine sI ?_; try with_reducible exact True.intro)
    (intros; try refine go_st ?_)
    refine go_ret (retQ_v rfl ?_); simp only [push_cast, Nat.reduceBEq]
    have : 0 ≤ n := by simpa using h1
    simp [inO, this]
  · (refine sI ?_; try with_reducible exact True.intro)
    (intros; try refine go_st ?_)
    refine go_ret (retQ_v rfl ?_); simp only [push_cast, Nat.reduceBEq]
    have : ¬ 0 ≤ n := by simpa using h1
    simp [inO, this]
/-- A text's bytes. -/
def ptB (s : ByteArray) : List UInt8 := pvB s.size ++ s.data.toList
theorem ptB_len (s : ByteArray) : (ptB s).length ≤ 10 + s.size := by
  have := pvB_len s.size
  simp [ptB]
  omega
theorem PutText_ok (l : List UInt8) (s : ByteArray) (v : Value) (G : Nat → Option Obj) (hl : SB G v l) (hb : l.length ≤ 100000) (hs : s.size ≤ 100000) :
    FnO Try.prog 80 #[v, .string s] G [] (fun _ L' r => OwnB (l ++ ptB s) L' r) := by
  refine F80.fnO (by simp) noRegs_nil (go_of ?_)
  unfold c80
  (intros; try refine go_st ?_); refine go_r 0 0 (by decide) ?_; (refine sJ c80r0.eq_1 ?_; try with_reducible exact True.intro)
  (intros; try refine go_st ?_); refine go_r 5 11 (by decide) ?_; (refine sJ c80r1.eq_1 ?_; try with_reducible exact True.intro)
  refine (PutVar_ok l s.size (by unfold I64; omega) v G hl hb _ []).mono ?_
  rintro r h' ⟨G1, L', rfl, hg1, ys, hys, rfl⟩
  (refine sI ?_; try with_reducible exact True.intro)
  have hpl := pvB_len s.size
  refine apX_s (L1 := []) (.inl rfl) hys (by rw [List.length_append]; omega) fun A' c' zc' hzc => ?_
  (refine sI ?_; try with_reducible exact True.intro)
  (intros; try refine go_st ?_)
  refine go_ret (retQ_o _ rfl (List.Sublist.refl _) (noRegs_row noRegs_nil) ?_)
  rw [List.append_assoc] at hzc ⊢
  exact ⟨zc', hzc, rfl⟩
theorem RPutText_ok (l : List UInt8) (s : ByteArray) (v : Value) (G : Nat → Option Obj) (hl : SB G v l) (hb : l.length ≤ 100000) (hs : s.size ≤ 100000) :
    FnO Try.prog 85 #[v, .string s] G [] (fun _ L' r => OwnB (l ++ ptB s) L' r) := by
  refine F85.fnO (by simp) noRegs_nil (go_of ?_)
  unfold c85
  (intros; try refine go_st ?_); refine go_r 0 0 (by decide) ?_; (refine sJ c85r0.eq_1 ?_; try with_reducible exact True.intro)
  (intros; try refine go_st ?_); refine go_r 5 11 (by decide) ?_; (refine sJ c85r1.eq_1 ?_; try with_reducible exact True.intro)
  refine (RPutVar_ok l s.size (by unfold I64; omega) v G hl hb _ []).mono ?_
  rintro r h' ⟨G1, L', rfl, hg1, ys, hys, rfl⟩
  (refine sI ?_; try with_reducible exact True.intro)
  have hpl := pvB_len s.size
  refine apX_s (L1 := []) (.inl rfl) hys (by rw [List.length_append]; omega) fun A' c' zc' hzc => ?_
  (refine sI ?_; try with_reducible exact True.intro)
  (intros; try refine go_st ?_)
  refine go_ret (retQ_o _ rfl (List.Sublist.refl _) (noRegs_row noRegs_nil) ?_)
  rw [List.append_assoc] at hzc ⊢
  exact ⟨zc', hzc, rfl⟩

structure Rec where
  off : Int
  key : ByteArray
  val : ByteArray
  dead : Bool
  stamp : Int
def cellR (x : Rec) : List Value := [.int .i64 x.off, .string x.key, .string x.val, .bool x.dead, .int .i64 x.stamp]
def RR (x : Rec) (cs : List Value) : Prop := cs = cellR x ∧ (I64 x.off ∧ I64 x.stamp) ∧ x.key.size ≤ maxLen ∧ x.val.size ≤ maxLen
def isE (s : ByteArray) : Bool := s.toList == ByteArray.toList ⟨#[]⟩
def chkR (x : Rec) : Int := if inO x.off = true ∧ inO x.stamp = true ∧ x.key.size ≤ 64 ∧ x.val.size ≤ 64 ∧ ¬ (x.dead = true ∧ (isE x.key = true ∨ isE x.val = false)) then 0 else 1
theorem bin_seq (a : ByteArray) : binV .eql (.string a) (.string ⟨#[]⟩) = some (.bool (isE a)) := rfl
theorem bin_sne (a : ByteArray) : binV .neq (.string a) (.string ⟨#[]⟩) = some (.bool (!isE a)) := rfl

theorem chkR_1 {x : Rec} (h : inO x.off = false ∨ inO x.stamp = false ∨ 64 < x.key.size ∨ 64 < x.val.size ∨ (x.dead = true ∧ (isE x.key = true ∨ isE x.val = false))) : chkR x = 1 := by
  refine if_neg fun ⟨h1, h2, h3, h4, h5⟩ => ?_
  rcases h with h | h | h | h | h
  · rw [h1] at h; cases h
  · rw [h2] at h; cases h
  · omega
  · omega
  · exact h5 h
theorem RCheck_ok (x : Rec) (G : Nat → Option Obj) : FnS Try.prog 83 #[.agg (cellR x).toArray] G (.int .i64 (chkR x)) := by
  refine F83.fnS (by simp) (go_of ?_)
  unfold c83 cellR
  (intros; try refine go_st ?_); refine go_r 0 0 (by decide) ?_; (refine sJ c83r0.eq_1 ?_; try with_reducible exact True.intro)
  have hbad : ∀ (fr : List Td) (e : Env) (L : List Kx.Item), chkR x = 1 → go none Try.prog 39 v83.1 v83.2 (retQ o83 fun v h => v = .int .i64 (chkR x)) (Td.s ((SC.reg false c83r2).seq .ret) :: fr) e ⟨G, L, []⟩ := fun fr e L hx => by
    (intros; try refine go_st ?_); refine go_r 0 0 (by decide) ?_; (refine sJ c83r2.eq_1 ?_; try with_reducible exact True.intro)
    (intros; try refine go_st ?_)
    refine go_ret (retQ_v rfl ?_); simp only [push_cast, Nat.reduceBEq]
    rw [hx]
  have hgood : ∀ (e : Env) (L : List Kx.Item), chkR x = 0 → go none Try.prog 39 v83.1 v83.2 (retQ o83 fun v h => v = .int .i64 (chkR x)) [Td.s ((SC.reg false c83r3).seq .ret)] e ⟨G, L, []⟩ := fun e L hx => by
    (intros; try refine go_st ?_); refine go_r 0 0 (by decide) ?_; (refine sJ c83r3.eq_1 ?_; try with_reducible exact True.intro)
    (intros; try refine go_st ?_)
    refine go_ret (retQ_v rfl ?_); simp only [push_cast, Nat.reduceBEq]
    rw [hx]
  (intros; try refine go_st ?_); refine go_r 4 38 (by decide) ?_; (refine sJ c83r1.eq_1 ?_; try with_reducible exact True.intro)
  refine (In_ok x.off G _ _).mono ?_; rintro _ _ ⟨rfl, rfl⟩; (refine sI ?_; try with_reducible exact True.intro)
  refine gd (fun h1 => ?_) (fun h1 => ?_)
  · (refine sI ?_; try with_reducible exact True.intro)
    (intros; try refine go_st ?_); refine go_c ?_; (refine sI ?_; try with_reducible exact True.intro)
    exact hbad _ _ _ (chkR_1 (.inl (by simpa using h1)))
  (refine sI ?_; try with_reducible exact True.intro)
  refine (In_ok x.stamp G _ _).mono ?_; rintro _ _ ⟨rfl, rfl⟩; (refine sI ?_; try with_reducible exact True.intro)
  refine gd (fun h2 => ?_) (fun h2 => ?_)
  · (refine sI ?_; try with_reducible exact True.intro)
    (intros; try refine go_st ?_); refine go_c ?_; (refine sI ?_; try with_reducible exact True.intro)
    exact hbad _ _ _ (chkR_1 (.inr (.inl (by simpa using h2))))
  (refine sI ?_; try with_reducible exact True.intro)
  refine gd (fun h3 => ?_) (fun h3 => ?_)
  · (refine sI ?_; try with_reducible exact True.intro)
    (intros; try refine go_st ?_); refine go_c ?_; (refine sI ?_; try with_reducible exact True.intro)
    exact hbad _ _ _ (chkR_1 (.inr (.inr (.inl (by simp at h3; omega)))))
  (refine sI ?_; try with_reducible exact True.intro)
  refine gd (fun h4 => ?_) (fun h4 => ?_)
  · (refine sI ?_; try with_reducible exact True.intro)
    (intros; try refine go_st ?_); refine go_c ?_; (refine sI ?_; try with_reducible exact True.intro)
    exact hbad _ _ _ (chkR_1 (.inr (.inr (.inr (.inl (by simp at h4; omega))))))
  (refine sI ?_; try with_reducible exact True.intro)
  have h1' : inO x.off = true := by simpa using h1
  have h2' : inO x.stamp = true := by simpa using h2
  have h3' : x.key.size ≤ 64 := by simp at h3; omega
  have h4' : x.val.size ≤ 64 := by simp at h4; omega
  refine gd (fun h5 => ?_) (fun h5 => ?_)
  · (refine sJ @bin_seq ?_; try with_reducible exact True.intro)
    refine gd (fun h6 => ?_) (fun h6 => ?_)
    · (refine sI ?_; try with_reducible exact True.intro)
      (intros; try refine go_st ?_); refine go_c ?_; (refine sI ?_; try with_reducible exact True.intro)
      exact hbad _ _ _ (chkR_1 (.inr (.inr (.inr (.inr ⟨h5, .inl h6⟩)))))
    (refine sJ @bin_sne ?_; try with_reducible exact True.intro)
    (intros; try refine go_st ?_); refine go_c ?_; (refine sI ?_; try with_reducible exact True.intro)
    refine gb (fun h7 => ?_) (fun h7 => ?_)
    · exact hbad _ _ _ (chkR_1 (.inr (.inr (.inr (.inr ⟨h5, .inr (by simpa using h7)⟩)))))
    · (repeat first | refine go_skip ?_ | refine go_b ?_)
      refine hgood _ _ (if_pos ⟨h1', h2', h3', h4', fun h => ?_⟩)
      rcases h.2 with h | h
      · rw [h6] at h; cases h
      · simp [h] at h7
  · (refine sI ?_; try with_reducible exact True.intro)
    (intros; try refine go_st ?_); refine go_c ?_; (refine sI ?_; try with_reducible exact True.intro)
    (repeat first | refine go_skip ?_ | refine go_b ?_)
    exact hgood _ _ (if_pos ⟨h1', h2', h3', h4', fun h => by rw [h5] at h; cases h.1⟩)
theorem Check_ok (x : Rec) (G : Nat → Option Obj) : FnS Try.prog 60 #[.agg (cellR x).toArray] G (.int .i64 (chkR x)) := by
  refine F60.fnS (by simp) (go_of ?_)
  unfold c60 cellR
  (intros; try refine go_st ?_); refine go_r 0 0 (by decide) ?_; (refine sJ c60r0.eq_1 ?_; try with_reducible exact True.intro)
  have hbad : ∀ (fr : List Td) (e : Env) (L : List Kx.Item), chkR x = 1 → go none Try.prog 33 v60.1 v60.2 (retQ o60 fun v h => v = .int .i64 (chkR x)) (Td.s ((SC.reg false c60r4).seq .ret) :: fr) e ⟨G, L, []⟩ := fun fr e L hx => by
    (intros; try refine go_st ?_); refine go_r 0 0 (by decide) ?_; (refine sJ c60r4.eq_1 ?_; try with_reducible exact True.intro)
    (intros; try refine go_st ?_)
    refine go_ret (retQ_v rfl ?_); simp only [push_cast, Nat.reduceBEq]
    rw [hx]
  (intros; try refine go_st ?_); refine go_r 5 8 (by decide) ?_; (refine sJ c60r1.eq_1 ?_; try with_reducible exact True.intro)
  refine (in_ok x.off G _ _).mono ?_; rintro _ _ ⟨rfl, rfl⟩; (refine sI ?_; try with_reducible exact True.intro)
  (intros; try refine go_st ?_); refine go_c ?_; (refine sI ?_; try with_reducible exact True.intro)
  refine gb (fun h1 => ?_) (fun h1 => ?_)
  · (repeat first | refine go_skip ?_ | refine go_b ?_)
    (intros; try refine go_st ?_); refine go_c ?_; (refine sI ?_; try with_reducible exact True.intro)
    refine gb (fun _ => ?_) (fun h => by rw [h1] at h; cases h)
    exact hbad _ _ _ (chkR_1 (.inl (by simpa using h1)))
  (intros; try refine go_st ?_); refine go_r 9 12 (by decide) ?_; (refine sJ c60r2.eq_1 ?_; try with_reducible exact True.intro)
  refine (in_ok x.stamp G _ _).mono ?_; rintro _ _ ⟨rfl, rfl⟩; (refine sI ?_; try with_reducible exact True.intro)
  (intros; try refine go_st ?_); refine go_c ?_; (refine sI ?_; try with_reducible exact True.intro)
  refine gb (fun h2 => ?_) (fun h2 => ?_)
  · (repeat first | refine go_skip ?_ | refine go_b ?_)
    (intros; try refine go_st ?_); refine go_c ?_; (refine sI ?_; try with_reducible exact True.intro)
    refine gb (fun _ => ?_) (fun h => by rw [h2] at h; cases h)
    exact hbad _ _ _ (chkR_1 (.inr (.inl (by simpa using h2))))
  have h1' : inO x.off = true := by simpa using h1
  have h2' : inO x.stamp = true := by simpa using h2
  (intros; try refine go_st ?_); refine go_r 13 20 (by decide) ?_; (refine sJ c60r3.eq_1 ?_; try with_reducible exact True.intro)
  (intros; try refine go_st ?_); refine go_c ?_; (refine sI ?_; try with_reducible exact True.intro)
  refine gb (fun h3 => ?_) (fun h3 => ?_)
  · have h3 := of_decide_eq_true h3
    by_cases h4 : 64 < x.key.size
    · exact hbad _ _ _ (chkR_1 (.inr (.inr (.inl h4))))
    · exact hbad _ _ _ (chkR_1 (.inr (.inr (.inr (.inl (by omega))))))
  have h3 := of_decide_eq_false h3
  have h3' : x.key.size ≤ 64 := by omega
  have h4' : x.val.size ≤ 64 := by omega
  have hbad2 : ∀ (fr : List Td) (e : Env) (L : List Kx.Item), chkR x = 1 → go none Try.prog 33 v60.1 v60.2 (retQ o60 fun v h => v = .int .i64 (chkR x)) (Td.s ((SC.reg false c60r6).seq .ret) :: fr) e ⟨G, L, []⟩ := fun fr e L hx => by
    (intros; try refine go_st ?_); refine go_r 0 0 (by decide) ?_; (refine sJ c60r6.eq_1 ?_; try with_reducible exact True.intro)
    (intros; try refine go_st ?_)
    refine go_ret (retQ_v rfl ?_); simp only [push_cast, Nat.reduceBEq]
    rw [hx]
  have hgood : ∀ (e : Env) (L : List Kx.Item), chkR x = 0 → go none Try.prog 33 v60.1 v60.2 (retQ o60 fun v h => v = .int .i64 (chkR x)) [Td.s ((SC.reg false c60r7).seq .ret)] e ⟨G, L, []⟩ := fun e L hx => by
    (intros; try refine go_st ?_); refine go_r 0 0 (by decide) ?_; (refine sJ c60r7.eq_1 ?_; try with_reducible exact True.intro)
    (intros; try refine go_st ?_)
    refine go_ret (retQ_v rfl ?_); simp only [push_cast, Nat.reduceBEq]
    rw [hx]
  (intros; try refine go_st ?_); refine go_r 22 33 (by decide) ?_; (refine sJ c60r5.eq_1 ?_; try with_reducible exact True.intro)
  refine gd (fun h5 => ?_) (fun h5 => ?_)
  · (refine sJ @bin_seq ?_; try with_reducible exact True.intro)
    refine gd (fun h6 => ?_) (fun h6 => ?_)
    · (refine sI ?_; try with_reducible exact True.intro)
      (intros; try refine go_st ?_); refine go_c ?_; (refine sI ?_; try with_reducible exact True.intro)
      exact hbad2 _ _ _ (chkR_1 (.inr (.inr (.inr (.inr ⟨h5, .inl h6⟩)))))
    (refine sJ @bin_sne ?_; try with_reducible exact True.intro)
    (intros; try refine go_st ?_); refine go_c ?_; (refine sI ?_; try with_reducible exact True.intro)
    refine gb (fun h7 => ?_) (fun h7 => ?_)
    · exact hbad2 _ _ _ (chkR_1 (.inr (.inr (.inr (.inr ⟨h5, .inr (by simpa using h7)⟩)))))
    · (repeat first | refine go_skip ?_ | refine go_b ?_)
      refine hgood _ _ (if_pos ⟨h1', h2', h3', h4', fun h => ?_⟩)
      rcases h.2 with h | h
      · rw [h6] at h; cases h
      · simp [h] at h7
  · (refine sI ?_; try with_reducible exact True.intro)
    (intros; try refine go_st ?_); refine go_c ?_; (refine sI ?_; try with_reducible exact True.intro)
    (repeat first | refine go_skip ?_ | refine go_b ?_)
    exact hgood _ _ (if_pos ⟨h1', h2', h3', h4', fun h => by rw [h5] at h; cases h.1⟩)
end Go.Proofs.Ytfhheomeebejnaa

/- Bytes, part 4 of a proof: a record's bytes. No condition. -/
set_option linter.unusedSimpArgs false
set_option linter.unusedVariables false
namespace Go.Proofs.Ytfhheomeebejnaa
open Go Go.Kx
theorem F62 : Fun Try.prog 62 46 v62 c62 o62 := Fun.mk' Try.func62 Try.ntmps62 (by kernel_rfl) (by kernel_rfl) s62 q62
theorem F67 : Fun Try.prog 67 50 v67 c67 o67 := Fun.mk' Try.func67 Try.ntmps67 (by kernel_rfl) (by kernel_rfl) s67 q67

/-- A record's bytes. -/
def prB (x : Rec) (base stamp : Int) : List UInt8 := pvB (x.off - base) ++ pvB (x.stamp - stamp) ++ [if x.dead = true then 1 else 0] ++ ptB x.key ++ ptB x.val
def putR (x : Rec) (base stamp : Int) : List UInt8 × Int := if chkR x ≠ 0 then ([], chkR x) else if ¬ (inO base = true ∧ inO stamp = true) then ([], 1) else (prB x base stamp, 0)
/-- Bytes, and why there are none. -/
def OwnE (p : List UInt8 × Int) (L' : List Kx.Item) (r : Value) : Prop := ∃ u, r = .tuple #[u, .int .i64 p.2] ∧ OwnB p.1 L' u
theorem chk_small {x : Rec} (h : chkR x = 0) : (inO x.off = true ∧ inO x.stamp = true) ∧ x.key.size ≤ 64 ∧ x.val.size ≤ 64 := by
  by_cases h0 : inO x.off = true ∧ inO x.stamp = true ∧ x.key.size ≤ 64 ∧ x.val.size ≤ 64 ∧ ¬ (x.dead = true ∧ (isE x.key = true ∨ isE x.val = false))
  · exact ⟨⟨h0.1, h0.2.1⟩, h0.2.2.1, h0.2.2.2.1⟩
  · rw [chkR, if_neg h0] at h; cases h
theorem RPut_ok (x : Rec) (base stamp : Int) (G : Nat → Option Obj) : FnO Try.prog 67 #[.agg (cellR x).toArray, .int .i64 base, .int .i64 stamp] G [] (fun _ L' r => OwnE (putR x base stamp) L' r) := by
  refine F67.fnO (by simp) noRegs_nil (go_of ?_)
  unfold c67
  have hck := RCheck_ok x
  unfold cellR at hck ⊢
  (intros; try refine go_st ?_); refine go_r 0 0 (by decide) ?_; (refine sJ c67r0.eq_1 ?_; try with_reducible exact True.intro)
  (intros; try refine go_st ?_); refine go_r 10 12 (by decide) ?_; (refine sJ c67r1.eq_1 ?_; try with_reducible exact True.intro)
  refine (hck G _ _).mono ?_; rintro _ _ ⟨rfl, rfl⟩; (refine sI ?_; try with_reducible exact True.intro)
  (intros; try refine go_st ?_); refine go_r 12 13 (by decide) ?_; (refine sJ c67r2.eq_1 ?_; try with_reducible exact True.intro)
  (intros; try refine go_st ?_); refine go_c ?_; (refine sI ?_; try with_reducible exact True.intro)
  refine gb (fun h1 => ?_) (fun h1 => ?_)
  · (intros; try refine go_st ?_); refine go_r 14 15 (by decide) ?_; (refine sJ c67r3.eq_1 ?_; try with_reducible exact True.intro)
    (intros; try refine go_st ?_)
    refine go_ghost (ghost_nil none 5 1) ?_
    refine go_ret (retQ_o _ rfl (.cons_cons _ (List.nil_sublist _)) (noRegs_row noRegs_nil) ?_)
    rw [putR, if_pos (by simpa using h1)]
    exact ⟨_, rfl, [], .nil, rfl⟩
  have h1 : chkR x = 0 := by simpa using h1
  have hbad : ∀ (fr : List Td) (e : Env) (L : List Kx.Item), putR x base stamp = ([], 1) → go none Try.prog 50 v67.1 v67.2 (retQ o67 fun v h => OwnE (putR x base stamp) h.L v) (Td.s ((SC.reg false c67r5).seq .ret) :: fr) e ⟨G, L, []⟩ := fun fr e L hx => by
    (intros; try refine go_st ?_); refine go_r 0 0 (by decide) ?_; (refine sJ c67r5.eq_1 ?_; try with_reducible exact True.intro)
    (intros; try refine go_st ?_)
    refine go_ghost (ghost_nil none 5 1) ?_
    refine go_ret (retQ_o _ rfl (.cons_cons _ (List.nil_sublist _)) (noRegs_row noRegs_nil) ?_)
    rw [hx]
    exact ⟨_, rfl, [], .nil, rfl⟩
  have hpb : ∀ (h : ¬ (inO base = true ∧ inO stamp = true)), putR x base stamp = ([], 1) := fun h => by rw [putR, if_neg (by simp [h1]), if_pos h]
  (intros; try refine go_st ?_); refine go_r 15 22 (by decide) ?_; (refine sJ c67r4.eq_1 ?_; try with_reducible exact True.intro)
  refine (In_ok base G _ _).mono ?_; rintro _ _ ⟨rfl, rfl⟩; (refine sI ?_; try with_reducible exact True.intro)
  refine gd (fun h2 => ?_) (fun h2 => ?_)
  · (refine sI ?_; try with_reducible exact True.intro)
    (intros; try refine go_st ?_); refine go_c ?_; (refine sI ?_; try with_reducible exact True.intro)
    exact hbad _ _ _ (hpb fun h => by rw [h.1] at h2; cases h2)
  (refine sI ?_; try with_reducible exact True.intro)
  refine (In_ok stamp G _ _).mono ?_; rintro _ _ ⟨rfl, rfl⟩; (refine sI ?_; try with_reducible exact True.intro)
  (intros; try refine go_st ?_); refine go_c ?_; (refine sI ?_; try with_reducible exact True.intro)
  refine gb (fun h3 => ?_) (fun h3 => ?_)
  · exact hbad _ _ _ (hpb fun h => by rw [h.2] at h3; cases h3)
  have h2 : inO base = true := by simpa using h2
  have h3 : inO stamp = true := by simpa using h3
  obtain ⟨⟨ho, hst⟩, hk, hv⟩ := chk_small h1
  have hput : putR x base stamp = (prB x base stamp, 0) := by rw [putR, if_neg (by simp [h1]), if_neg (by simp [h2, h3])]
  simp [inO] at h2 h3 ho hst
  have w1 : IntKind.i64.wrap (x.off - base) = x.off - base := by rw [w64_id] <;> omega
  have w2 : IntKind.i64.wrap (x.stamp - stamp) = x.stamp - stamp := by rw [w64_id] <;> omega
  have i1 : I64 (x.off - base) := by unfold I64; omega
  have i2 : I64 (x.stamp - stamp) := by unfold I64; omega
  have l1 := pvB_len (x.off - base)
  have l2 := pvB_len (x.stamp - stamp)
  (repeat first | refine go_skip ?_ | refine go_b ?_)
  (intros; try refine go_st ?_); refine go_r 24 28 (by decide) ?_; (refine sJ2 c67r6.eq_1 @w1 ?_; try with_reducible exact True.intro)
  refine (RPutVar_ok [] (x.off - base) i1 _ G SB.nil (by simp) _ []).mono ?_
  rintro r h' ⟨G1, L', rfl, hg1, ys, hys, rfl⟩
  simp only [List.nil_append] at hys ⊢
  (refine sI ?_; try with_reducible exact True.intro)
  (intros; try refine go_st ?_); refine go_r 28 34 (by decide) ?_; (refine sJ2 c67r7.eq_1 @w2 ?_; try with_reducible exact True.intro)
  refine callsH_gx F66.enters (gx_slv_at [] _ (by decide) hys) ?_
  rintro h' ⟨G2, rfl, hg2, hv2⟩
  refine (RPutVar_ok _ (x.stamp - stamp) i2 _ G2 hv2 (by omega) _ []).mono ?_
  rintro r h' ⟨G3, L', rfl, hg3, ys3, hys3, rfl⟩
  (refine sI ?_; try with_reducible exact True.intro)
  have hrest : ∀ (e : Env) (L : List Kx.Item) (u : Value) (zc : List Value) (b : UInt8), b = (if x.dead = true then 1 else 0) → Cells UE 1 (pvB (x.off - base) ++ pvB (x.stamp - stamp) ++ [b]) zc → e 9 = u →
      go none Try.prog 50 v67.1 v67.2 (retQ o67 fun v h => OwnE (putR x base stamp) h.L v) [Td.s ((SC.reg false c67r11).seq ((SC.reg false c67r12).seq .ret))] e ⟨G3, [.row u 5 1 (pvB (x.off - base) ++ pvB (x.stamp - stamp) ++ [b]).length zc, .reg 3 [.int .i64 x.off, .string x.key, .string x.val, .bool x.dead, .int .i64 x.stamp]], []⟩ := fun e L u zc b hb hzc e9 => by
    refine go_keep [9] ?_
    (refine sJ @e9 ?_; try with_reducible exact True.intro)
    (intros; try refine go_st ?_); refine go_r 42 46 (by decide) ?_; (refine sJ c67r11.eq_1 ?_; try with_reducible exact True.intro)
    refine callsH_gx F85.enters (gx_slv_at [] _ (by decide) hzc) ?_
    rintro h' ⟨G4, rfl, hg4, hv4⟩
    refine (RPutText_ok _ x.key _ G4 hv4 (by simp; omega) (by omega) _ []).mono ?_
    rintro r h' ⟨G5, L', rfl, hg5, ys5, hys5, rfl⟩
    (refine sI ?_; try with_reducible exact True.intro)
    have l3 := ptB_len x.key
    (intros; try refine go_st ?_); refine go_r 46 50 (by decide) ?_; (refine sJ c67r12.eq_1 ?_; try with_reducible exact True.intro)
    refine callsH_gx F85.enters (gx_slv_at [] _ (by decide) hys5) ?_
    rintro h' ⟨G6, rfl, hg6, hv6⟩
    refine (RPutText_ok _ x.val _ G6 hv6 (by simp; omega) (by omega) _ []).mono ?_
    rintro r h' ⟨G7, L', rfl, hg7, ys7, hys7, rfl⟩
    (refine sI ?_; try with_reducible exact True.intro)
    (intros; try refine go_st ?_)
    refine go_ret (retQ_o _ rfl (.cons_cons _ (List.nil_sublist _)) (noRegs_row noRegs_nil) ?_)
    rw [hput]
    subst hb
    exact ⟨_, rfl, ys7, hys7, rfl⟩
  (intros; try refine go_st ?_); refine go_r 0 0 (by decide) ?_; (refine sJ c67r8.eq_1 ?_; try with_reducible exact True.intro)
  (intros; try refine go_st ?_); refine go_c ?_; (refine sI ?_; try with_reducible exact True.intro)
  refine gb (fun h5 => ?_) (fun h5 => ?_)
  · (intros; try refine go_st ?_); refine go_r 36 39 (by decide) ?_; (refine sJ c67r9.eq_1 ?_; try with_reducible exact True.intro)
    intro bk hbk
    refine app8 (L1 := []) (L2 := [_]) (x := 1) rfl rfl hys3 (by simp; omega) fun A' c' zc' hzc => ?_
    (refine sI ?_; try with_reducible exact True.intro)
    intro _
    refine go_ghost (ghost_sub (.cons _ (List.Sublist.refl _))) ?_
    (repeat first | refine go_skip ?_ | refine go_b ?_)
    refine hrest _ [] _ _ 1 (by rw [if_pos h5]) hzc ?_
    (refine sI ?_; try with_reducible exact True.intro)
  · (intros; try refine go_st ?_); refine go_r 39 42 (by decide) ?_; (refine sJ c67r10.eq_1 ?_; try with_reducible exact True.intro)
    intro bk hbk
    refine app8 (L1 := []) (L2 := [_]) (x := 0) rfl rfl hys3 (by simp; omega) fun A' c' zc' hzc => ?_
    (refine sI ?_; try with_reducible exact True.intro)
    intro _
    refine go_ghost (ghost_sub (.cons _ (List.Sublist.refl _))) ?_
    (repeat first | refine go_skip ?_ | refine go_b ?_)
    refine hrest _ [] _ _ 0 (by rw [if_neg (by rw [h5]; simp)]) hzc ?_
    (refine sI ?_; try with_reducible exact True.intro)
theorem Put_ok (x : Rec) (base stamp : Int) (G : Nat → Option Obj) : FnO Try.prog 62 #[.agg (cellR x).toArray, .int .i64 base, .int .i64 stamp] G [] (fun _ L' r => OwnE (putR x base stamp) L' r) := by
  refine F62.fnO (by simp) noRegs_nil (go_of ?_)
  unfold c62
  have hck := Check_ok x
  unfold cellR at hck ⊢
  (intros; try refine go_st ?_); refine go_r 0 0 (by decide) ?_; (refine sJ c62r0.eq_1 ?_; try with_reducible exact True.intro)
  (intros; try refine go_st ?_); refine go_r 11 13 (by decide) ?_; (refine sJ c62r1.eq_1 ?_; try with_reducible exact True.intro)
  refine (hck G _ _).mono ?_; rintro _ _ ⟨rfl, rfl⟩; (refine sI ?_; try with_reducible exact True.intro)
  (intros; try refine go_st ?_); refine go_r 13 14 (by decide) ?_; (refine sJ c62r2.eq_1 ?_; try with_reducible exact True.intro)
  (intros; try refine go_st ?_); refine go_c ?_; (refine sI ?_; try with_reducible exact True.intro)
  refine gb (fun h1 => ?_) (fun h1 => ?_)
  · (intros; try refine go_st ?_); refine go_r 15 16 (by decide) ?_; (refine sJ c62r3.eq_1 ?_; try with_reducible exact True.intro)
    (intros; try refine go_st ?_)
    refine go_ghost (ghost_nil none 5 1) ?_
    refine go_ret (retQ_o _ rfl (.cons_cons _ (List.nil_sublist _)) (noRegs_row noRegs_nil) ?_)
    rw [putR, if_pos (by simpa using h1)]
    exact ⟨_, rfl, [], .nil, rfl⟩
  have h1 : chkR x = 0 := by simpa using h1
  have hbad : ∀ (fr : List Td) (e : Env) (L : List Kx.Item), putR x base stamp = ([], 1) → go none Try.prog 46 v62.1 v62.2 (retQ o62 fun v h => OwnE (putR x base stamp) h.L v) (Td.s ((SC.reg false c62r5).seq .ret) :: fr) e ⟨G, L, []⟩ := fun fr e L hx => by
    (intros; try refine go_st ?_); refine go_r 0 0 (by decide) ?_; (refine sJ c62r5.eq_1 ?_; try with_reducible exact True.intro)
    (intros; try refine go_st ?_)
    refine go_ghost (ghost_nil none 5 1) ?_
    refine go_ret (retQ_o _ rfl (.cons_cons _ (List.nil_sublist _)) (noRegs_row noRegs_nil) ?_)
    rw [hx]
    exact ⟨_, rfl, [], .nil, rfl⟩
  have hpb : ∀ (h : ¬ (inO base = true ∧ inO stamp = true)), putR x base stamp = ([], 1) := fun h => by rw [putR, if_neg (by simp [h1]), if_pos h]
  (repeat first | refine go_skip ?_ | refine go_b ?_)
  (intros; try refine go_st ?_); refine go_r 16 23 (by decide) ?_; (refine sJ c62r4.eq_1 ?_; try with_reducible exact True.intro)
  refine (in_ok base G _ _).mono ?_; rintro _ _ ⟨rfl, rfl⟩; (refine sI ?_; try with_reducible exact True.intro)
  refine gd (fun h2 => ?_) (fun h2 => ?_)
  · (refine sI ?_; try with_reducible exact True.intro)
    (intros; try refine go_st ?_); refine go_c ?_; (refine sI ?_; try with_reducible exact True.intro)
    exact hbad _ _ _ (hpb fun h => by rw [h.1] at h2; cases h2)
  (refine sI ?_; try with_reducible exact True.intro)
  refine (in_ok stamp G _ _).mono ?_; rintro _ _ ⟨rfl, rfl⟩; (refine sI ?_; try with_reducible exact True.intro)
  (intros; try refine go_st ?_); refine go_c ?_; (refine sI ?_; try with_reducible exact True.intro)
  refine gb (fun h3 => ?_) (fun h3 => ?_)
  · exact hbad _ _ _ (hpb fun h => by rw [h.2] at h3; cases h3)
  have h2 : inO base = true := by simpa using h2
  have h3 : inO stamp = true := by simpa using h3
  obtain ⟨⟨ho, hst⟩, hk, hv⟩ := chk_small h1
  have hput : putR x base stamp = (prB x base stamp, 0) := by rw [putR, if_neg (by simp [h1]), if_neg (by simp [h2, h3])]
  simp [inO] at h2 h3 ho hst
  have w1 : IntKind.i64.wrap (x.off - base) = x.off - base := by rw [w64_id] <;> omega
  have w2 : IntKind.i64.wrap (x.stamp - stamp) = x.stamp - stamp := by rw [w64_id] <;> omega
  have i1 : I64 (x.off - base) := by unfold I64; omega
  have i2 : I64 (x.stamp - stamp) := by unfold I64; omega
  have l1 := pvB_len (x.off - base)
  have l2 := pvB_len (x.stamp - stamp)
  (repeat first | refine go_skip ?_ | refine go_b ?_)
  have hrest : ∀ (e : Env) (b : UInt8), b = (if x.dead = true then 1 else 0) → e 1 = .int .i64 base → e 2 = .int .i64 stamp → e 9 = .int .u8 (b.toNat : Int) →
      go none Try.prog 46 v62.1 v62.2 (retQ o62 fun v h => OwnE (putR x base stamp) h.L v) [Td.s ((SC.rgX c62r9).seq ((SC.rgX c62r10).seq .ret))] e ⟨G, [.reg 3 [.int .i64 x.off, .string x.key, .string x.val, .bool x.dead, .int .i64 x.stamp]], []⟩ := fun e b hb e1 e2 e9 => by
    refine go_keep [1, 2, 9] ?_
    (refine sJ3 @e1 @e2 @e9 ?_; try with_reducible exact True.intro)
    (intros; try refine go_st ?_); refine go_x _ (List.Sublist.refl _) (by decide) ?_; (refine sJ3 c62r9.eq_1 @w1 @w2 ?_; try with_reducible exact True.intro)
    refine (PutVar_ok [] (x.off - base) i1 _ G SB.nil (by simp) _ []).mono ?_
    rintro r h' ⟨G1, L', rfl, hg1, ys, hys, rfl⟩
    simp only [List.nil_append] at hys ⊢
    refine ⟨grow_L hg1 (.cons _ (List.Sublist.refl _)), ?_⟩
    (refine sI ?_; try with_reducible exact True.intro)
    refine callsH_gx F61.enters (gx_slv_at [] _ (by decide) hys) ?_
    rintro h' ⟨G2, rfl, hg2, hv2⟩
    refine (PutVar_ok _ (x.stamp - stamp) i2 _ G2 hv2 (by omega) _ []).mono ?_
    rintro r h' ⟨G3, L', rfl, hg3, ys3, hys3, rfl⟩
    refine ⟨grow_L (hg1.trans (hg2.trans hg3)) (.cons _ (List.Sublist.refl _)), ?_⟩
    (refine sI ?_; try with_reducible exact True.intro)
    (intros; try refine go_st ?_); refine go_x _ (.cons _ (List.Sublist.refl _)) (by decide) ?_; (refine sJ c62r10.eq_1 ?_; try with_reducible exact True.intro)
    intro bk hbk
    refine ⟨grow_L (fun _ _ h => h) (.cons _ (.cons _ (List.Sublist.refl _))), ?_⟩
    (refine sI ?_; try with_reducible exact True.intro)
    refine app8 (L1 := []) (L2 := [_]) (x := b) rfl rfl hys3 (by simp; omega) fun A' c' zc' hzc => ?_
    (refine sI ?_; try with_reducible exact True.intro)
    refine ⟨grow_L (fun _ _ h => h) (.cons _ (.cons _ (List.Sublist.refl _))), ?_⟩
    (refine sI ?_; try with_reducible exact True.intro)
    refine callsH_gx F80.enters (gx_slv_at [_] _ (by decide) hzc) ?_
    rintro h' ⟨G4, rfl, hg4, hv4⟩
    refine (PutText_ok _ x.key _ G4 hv4 (by simp; omega) (by omega) _ []).mono ?_
    rintro r h' ⟨G5, L', rfl, hg5, ys5, hys5, rfl⟩
    refine ⟨grow_L (hg4.trans hg5) (.cons _ (.cons _ (List.Sublist.refl _))), ?_⟩
    (refine sI ?_; try with_reducible exact True.intro)
    have l3 := ptB_len x.key
    refine callsH_gx F80.enters (gx_slv_at [] _ (by decide) hys5) ?_
    rintro h' ⟨G6, rfl, hg6, hv6⟩
    refine (PutText_ok _ x.val _ G6 hv6 (by simp; omega) (by omega) _ []).mono ?_
    rintro r h' ⟨G7, L', rfl, hg7, ys7, hys7, rfl⟩
    refine ⟨grow_L (hg4.trans (hg5.trans (hg6.trans hg7))) (.cons _ (.cons _ (List.Sublist.refl _))), ?_⟩
    (refine sI ?_; try with_reducible exact True.intro)
    (intros; try refine go_st ?_)
    refine go_ret (retQ_o _ rfl (.cons_cons _ (List.nil_sublist _)) (noRegs_row noRegs_nil) ?_)
    rw [hput]
    subst hb
    exact ⟨_, rfl, ys7, hys7, rfl⟩
  (intros; try refine go_st ?_); refine go_r 0 0 (by decide) ?_; (refine sJ c62r6.eq_1 ?_; try with_reducible exact True.intro)
  (intros; try refine go_st ?_); refine go_r 0 0 (by decide) ?_; (refine sJ c62r7.eq_1 ?_; try with_reducible exact True.intro)
  (intros; try refine go_st ?_); refine go_c ?_; (refine sI ?_; try with_reducible exact True.intro)
  refine gb (fun h5 => ?_) (fun h5 => ?_)
  · (intros; try refine go_st ?_); refine go_r 0 0 (by decide) ?_; (refine sJ c62r8.eq_1 ?_; try with_reducible exact True.intro)
    (repeat first | (with_reducible intro _) | refine go_skip ?_ | refine go_b ?_)
    refine hrest _ 1 (by rw [if_pos h5]) ?_ ?_ ?_ <;> (refine sI ?_; try with_reducible exact True.intro)
    rfl
  · (repeat first | refine go_skip ?_ | refine go_b ?_)
    refine hrest _ 0 (by rw [if_neg (by rw [h5]; simp)]) ?_ ?_ ?_ <;> (refine sI ?_; try with_reducible exact True.intro)
    rfl
end Go.Proofs.Ytfhheomeebejnaa

/- Bytes, part 9 of a proof: numbers in range. No condition. -/
set_option linter.unusedSimpArgs false
set_option linter.unusedVariables false
namespace Go.Proofs.Ytfhheomeebejnaa
open Go Go.Kx
theorem F59 : Fun Try.prog 59 14 v59 c59 o59 := Fun.mk' Try.func59 Try.ntmps59 (by kernel_rfl) (by kernel_rfl) s59 q59
theorem F77 : Fun Try.prog 77 25 v77 c77 o77 := Fun.mk' Try.func77 Try.ntmps77 (by kernel_rfl) (by kernel_rfl) s77 q77
theorem F78 : Fun Try.prog 78 25 v78 c78 o78 := Fun.mk' Try.func78 Try.ntmps78 (by kernel_rfl) (by kernel_rfl) s78 q78
theorem F82 : Fun Try.prog 82 12 v82 c82 o82 := Fun.mk' Try.func82 Try.ntmps82 (by kernel_rfl) (by kernel_rfl) s82 q82
def IE (x : Int) (cs : List Value) : Prop := cs = [.int .i64 x] ∧ I64 x
def rng (m n : Int) : Bool := decide (0 ≤ n) && decide (n ≤ m)
theorem rin_ok (n m : Int) (G : Nat → Option Obj) : FnS Try.prog 82 #[.int .i64 n, .int .i64 m] G (.bool (rng m n)) := by
  refine F82.fnS (by simp) (go_of ?_)
  unfold c82
  (intros; try refine go_st ?_); refine go_r 0 0 (by decide) ?_; (refine sJ c82r0.eq_1 ?_; try with_reducible exact True.intro)
  (intros; try refine go_st ?_); refine go_r 5 12 (by decide) ?_; (refine sJ c82r1.eq_1 ?_; try with_reducible exact True.intro)
  refine gd (fun h1 => ?_) (fun h1 => ?_)
  · (refine sI ?_; try with_reducible exact True.intro)
    (intros; try refine go_st ?_)
    refine go_ret (retQ_v rfl ?_); simp only [push_cast, Nat.reduceBEq]
    have : 0 ≤ n := by simpa using h1
    simp [rng, this]
  · (refine sI ?_; try with_reducible exact True.intro)
    (intros; try refine go_st ?_)
    refine go_ret (retQ_v rfl ?_); simp only [push_cast, Nat.reduceBEq]
    have : ¬ 0 ≤ n := by simpa using h1
    simp [rng, this]
theorem take1 {l : List Int} {k : Nat} {x y : Int} (h0 : l[0]? = some y) (hx : l[k]? = some x) (f : Int → Int → Int) (hk : 0 < k) : ((l.drop 1).take k).foldl f y = f (((l.drop 1).take (k - 1)).foldl f y) x := by
  have hl := List.getElem?_eq_some_iff.1 hx
  obtain ⟨k, rfl⟩ : ∃ j, k = j + 1 := ⟨k - 1, by omega⟩
  have h1 : (l.drop 1)[k]? = some x := by rw [List.getElem?_drop, Nat.add_comm]; exact hx
  have h2 := List.getElem?_eq_some_iff.1 h1
  rw [List.take_succ_eq_append_getElem h2.1, h2.2]
  simp
theorem Min_ok (l : List Int) (y : Int) (h0 : l[0]? = some y) (v : Value) (G : Nat → Option Obj) (hl : SlV G IE 1 v l) : FnS Try.prog 77 #[v] G (.int .i64 ((l.drop 1).foldl min y)) := by
  refine F77.fnS (by simp) (go_of ?_)
  obtain ⟨A, c, rfl, hc, hm, hA⟩ := hl
  have hpos := (List.getElem?_eq_some_iff.1 h0).1
  unfold c77
  (intros; try refine go_st ?_); refine go_r 0 0 (by decide) ?_; (refine sJ c77r0.eq_1 ?_; try with_reducible exact True.intro)
  (intros; try refine go_st ?_); refine go_r 5 7 (by decide) ?_; (refine sJ c77r1.eq_1 ?_; try with_reducible exact True.intro)
  (intros; try refine go_st ?_); refine go_c ?_; (refine sI ?_; try with_reducible exact True.intro)
  refine gb (fun h1 => by simp at h1; omega) (fun h1 => ?_)
  (repeat first | refine go_skip ?_ | refine go_b ?_)
  (intros; try refine go_st ?_); refine go_r 9 12 (by decide) ?_; (refine sJ c77r2.eq_1 ?_; try with_reducible exact True.intro)
  refine hA.x_l1 h0 rfl rfl ?_
  rintro a1 ha1 u1 ⟨hu, -⟩
  cases hu
  (refine sI ?_; try with_reducible exact True.intro)
  (intros; try refine go_st ?_); refine go_r 0 0 (by decide) ?_; (refine sJ c77r3.eq_1 ?_; try with_reducible exact True.intro)
  (intros; try refine go_st ?_)
  refine go_loop (fun e h => ∃ k : Nat, (0 < k ∧ k ≤ l.length) ∧ e 4 = .int .i64 k ∧ e 0 = .slice A l.length c ∧ e 3 = .int .i64 (((l.drop 1).take (k - 1)).foldl min y) ∧ h = ⟨G, [], []⟩) (fun e h => l.length - iv (e 4)) ?_ ?_
  · exact ⟨1, ⟨by omega, by omega⟩, by (refine sI ?_; try with_reducible exact True.intro); rfl, eE, by (refine sI ?_; try with_reducible exact True.intro); rfl, rfl⟩
  · rintro e h ⟨k, ⟨hk0, hk⟩, e4, e0, e3, rfl⟩
    refine go_keep [0, 3, 4] ?_
    (refine sJ3 @e0 @e3 @e4 ?_; try with_reducible exact True.intro)
    (intros; try refine go_st ?_); refine go_r 12 15 (by decide) ?_; (refine sJ c77r4.eq_1 ?_; try with_reducible exact True.intro)
    (intros; try refine go_st ?_); refine go_c ?_; (refine sI ?_; try with_reducible exact True.intro)
    refine gb (fun ht => ?_) (fun ht => ?_)
    · have hkl : k < l.length := by simpa using ht
      have hw3 := inc_i k c (by omega) hm
      obtain ⟨x, hx⟩ : ∃ x, l[k]? = some x := ⟨l[k], List.getElem?_eq_getElem (by omega)⟩
      (repeat first | refine go_skip ?_ | refine go_b ?_)
      (intros; try refine go_st ?_); refine go_r 18 24 (by decide) ?_; (refine sJ c77r5.eq_1 ?_; try with_reducible exact True.intro)
      refine hA.x_l1 hx rfl rfl ?_
      rintro a1 ha1 u1 ⟨hu, -⟩
      cases hu
      (refine sI ?_; try with_reducible exact True.intro)
      (intros; try refine go_st ?_); refine go_r 16 18 (by decide) ?_; (refine sJ2 c77r6.eq_1 @hw3 ?_; try with_reducible exact True.intro)
      (intros; try refine go_st ?_)
      refine go_l ⟨⟨k + 1, ⟨by omega, by omega⟩, eE, eE, by rw [Nat.add_sub_cancel, take1 h0 hx min hk0]; (refine sI ?_; try with_reducible exact True.intro), rfl⟩, ?_⟩
      (refine sI ?_; try with_reducible exact True.intro)
      omega
    · have hkl : k = l.length := by simp at ht; omega
      subst hkl
      refine go_exit ?_
      (refine sI ?_; try with_reducible exact True.intro)
      (intros; try refine go_st ?_); refine go_r 24 25 (by decide) ?_; (refine sJ c77r7.eq_1 ?_; try with_reducible exact True.intro)
      (intros; try refine go_st ?_)
      refine go_ret (retQ_v rfl ?_); simp only [push_cast, Nat.reduceBEq]
      rw [List.take_of_length_le (by simp)]
theorem Max_ok (l : List Int) (y : Int) (h0 : l[0]? = some y) (v : Value) (G : Nat → Option Obj) (hl : SlV G IE 1 v l) : FnS Try.prog 78 #[v] G (.int .i64 ((l.drop 1).foldl max y)) := by
  refine F78.fnS (by simp) (go_of ?_)
  obtain ⟨A, c, rfl, hc, hm, hA⟩ := hl
  have hpos := (List.getElem?_eq_some_iff.1 h0).1
  unfold c78
  (intros; try refine go_st ?_); refine go_r 0 0 (by decide) ?_; (refine sJ c78r0.eq_1 ?_; try with_reducible exact True.intro)
  (intros; try refine go_st ?_); refine go_r 5 7 (by decide) ?_; (refine sJ c78r1.eq_1 ?_; try with_reducible exact True.intro)
  (intros; try refine go_st ?_); refine go_c ?_; (refine sI ?_; try with_reducible exact True.intro)
  refine gb (fun h1 => by simp at h1; omega) (fun h1 => ?_)
  (repeat first | refine go_skip ?_ | refine go_b ?_)
  (intros; try refine go_st ?_); refine go_r 9 12 (by decide) ?_; (refine sJ c78r2.eq_1 ?_; try with_reducible exact True.intro)
  refine hA.x_l1 h0 rfl rfl ?_
  rintro a1 ha1 u1 ⟨hu, -⟩
  cases hu
  (refine sI ?_; try with_reducible exact True.intro)
  (intros; try refine go_st ?_); refine go_r 0 0 (by decide) ?_; (refine sJ c78r3.eq_1 ?_; try with_reducible exact True.intro)
  (intros; try refine go_st ?_)
  refine go_loop (fun e h => ∃ k : Nat, (0 < k ∧ k ≤ l.length) ∧ e 4 = .int .i64 k ∧ e 0 = .slice A l.length c ∧ e 3 = .int .i64 (((l.drop 1).take (k - 1)).foldl max y) ∧ h = ⟨G, [], []⟩) (fun e h => l.length - iv (e 4)) ?_ ?_
  · exact ⟨1, ⟨by omega, by omega⟩, by (refine sI ?_; try with_reducible exact True.intro); rfl, eE, by (refine sI ?_; try with_reducible exact True.intro); rfl, rfl⟩
  · rintro e h ⟨k, ⟨hk0, hk⟩, e4, e0, e3, rfl⟩
    refine go_keep [0, 3, 4] ?_
    (refine sJ3 @e0 @e3 @e4 ?_; try with_reducible exact True.intro)
    (intros; try refine go_st ?_); refine go_r 12 15 (by decide) ?_; (refine sJ c78r4.eq_1 ?_; try with_reducible exact True.intro)
    (intros; try refine go_st ?_); refine go_c ?_; (refine sI ?_; try with_reducible exact True.intro)
    refine gb (fun ht => ?_) (fun ht => ?_)
    · have hkl : k < l.length := by simpa using ht
      have hw3 := inc_i k c (by omega) hm
      obtain ⟨x, hx⟩ : ∃ x, l[k]? = some x := ⟨l[k], List.getElem?_eq_getElem (by omega)⟩
      (repeat first | refine go_skip ?_ | refine go_b ?_)
      (intros; try refine go_st ?_); refine go_r 18 24 (by decide) ?_; (refine sJ c78r5.eq_1 ?_; try with_reducible exact True.intro)
      refine hA.x_l1 hx rfl rfl ?_
      rintro a1 ha1 u1 ⟨hu, -⟩
      cases hu
      (refine sI ?_; try with_reducible exact True.intro)
      (intros; try refine go_st ?_); refine go_r 16 18 (by decide) ?_; (refine sJ2 c78r6.eq_1 @hw3 ?_; try with_reducible exact True.intro)
      (intros; try refine go_st ?_)
      refine go_l ⟨⟨k + 1, ⟨by omega, by omega⟩, eE, eE, by rw [Nat.add_sub_cancel, take1 h0 hx max hk0]; (refine sI ?_; try with_reducible exact True.intro), rfl⟩, ?_⟩
      (refine sI ?_; try with_reducible exact True.intro)
      omega
    · have hkl : k = l.length := by simp at ht; omega
      subst hkl
      refine go_exit ?_
      (refine sI ?_; try with_reducible exact True.intro)
      (intros; try refine go_st ?_); refine go_r 24 25 (by decide) ?_; (refine sJ c78r7.eq_1 ?_; try with_reducible exact True.intro)
      (intros; try refine go_st ?_)
      refine go_ret (retQ_v rfl ?_); simp only [push_cast, Nat.reduceBEq]
      rw [List.take_of_length_le (by simp)]
theorem min_all (m : Int) : ∀ (l : List Int) (y : Int), m ≤ l.foldl min y ↔ m ≤ y ∧ ∀ x ∈ l, m ≤ x
  | [], y => by simp
  | x :: l, y => by
    have h1 : m ≤ min y x ↔ m ≤ y ∧ m ≤ x := by omega
    rw [List.foldl_cons, min_all m l, h1, and_assoc]
    simp
theorem max_all (m : Int) : ∀ (l : List Int) (y : Int), l.foldl max y ≤ m ↔ y ≤ m ∧ ∀ x ∈ l, x ≤ m
  | [], y => by simp
  | x :: l, y => by
    have h1 : max y x ≤ m ↔ y ≤ m ∧ x ≤ m := by omega
    rw [List.foldl_cons, max_all m l, h1, and_assoc]
    simp
theorem within_all (m : Int) (l : List Int) (y : Int) : (decide (0 ≤ l.foldl min y) && decide (l.foldl max y ≤ m)) = (y :: l).all (rng m) := by
  rw [Bool.eq_iff_iff]
  simp only [Bool.and_eq_true, decide_eq_true_eq, min_all, max_all, List.all_eq_true, rng, List.mem_cons]
  constructor
  · rintro ⟨⟨h1, h2⟩, h3, h4⟩ x (rfl | hx)
    · exact ⟨h1, h3⟩
    · exact ⟨h2 x hx, h4 x hx⟩
  · intro h
    exact ⟨⟨(h y (.inl rfl)).1, fun x hx => (h x (.inr hx)).1⟩, (h y (.inl rfl)).2, fun x hx => (h x (.inr hx)).2⟩
theorem within_ok (m : Int) (y : Int) (l : List Int) (v : Value) (G : Nat → Option Obj) (hl : SlV G IE 1 v (y :: l)) : FnS Try.prog 59 #[.int .i64 m, v] G (.bool ((y :: l).all (rng m))) := by
  refine F59.fnS (by simp) (go_of ?_)
  rw [← within_all]
  unfold c59
  (intros; try refine go_st ?_); refine go_r 0 0 (by decide) ?_; (refine sJ c59r0.eq_1 ?_; try with_reducible exact True.intro)
  (intros; try refine go_st ?_); refine go_r 5 14 (by decide) ?_; (refine sJ c59r1.eq_1 ?_; try with_reducible exact True.intro)
  refine (Min_ok (y :: l) y rfl v G hl _ _).mono ?_; rintro _ _ ⟨rfl, rfl⟩; (refine sI ?_; try with_reducible exact True.intro)
  refine gd (fun h1 => ?_) (fun h1 => ?_)
  · (refine sI ?_; try with_reducible exact True.intro)
    refine (Max_ok (y :: l) y rfl v G hl _ _).mono ?_; rintro _ _ ⟨rfl, rfl⟩; (refine sI ?_; try with_reducible exact True.intro)
    (intros; try refine go_st ?_)
    refine go_ret (retQ_v rfl ?_); simp only [push_cast, Nat.reduceBEq]
    have h1 : 0 ≤ l.foldl min y := by simpa using h1
    simp [h1]
  · (refine sI ?_; try with_reducible exact True.intro)
    (intros; try refine go_st ?_)
    refine go_ret (retQ_v rfl ?_); simp only [push_cast, Nat.reduceBEq]
    have h1 : ¬ 0 ≤ l.foldl min y := by simpa using h1
    simp [h1]
end Go.Proofs.Ytfhheomeebejnaa

/- Bytes, part 10 of a proof: batches that have form. No condition. -/
set_option linter.unusedSimpArgs false
set_option linter.unusedVariables false
namespace Go.Proofs.Ytfhheomeebejnaa
open Go Go.Kx
theorem F47 : Fun Try.prog 47 131 v47 c47 o47 := Fun.mk' Try.func47 Try.ntmps47 (by kernel_rfl) (by kernel_rfl) s47 q47

structure Batch where
  base : Int
  last : Int
  src : Int
  epoch : Int
  pid : Int
  gen : Int
  seq : Int
  txn : Bool
  ctl : Int
  recs : List Rec
def cellH (x : Batch) (v : Value) : List Value := [.int .i64 x.base, .int .i64 x.last, .int .i64 x.src, .int .i64 x.epoch, .int .i64 x.pid, .int .i64 x.gen, .int .i64 x.seq, .bool x.txn, .int .i64 x.ctl, v]
def BE (G : Nat → Option Obj) (x : Batch) (cs : List Value) : Prop :=
  ∃ A c, cs = cellH x (.slice A x.recs.length c) ∧ (x.recs.length ≤ c ∧ c ≤ maxLen ∧ SlA G RR 5 A x.recs) ∧ I64 x.base ∧ I64 x.last ∧ I64 x.src ∧ I64 x.epoch ∧ I64 x.pid ∧ I64 x.gen ∧ I64 x.seq ∧ I64 x.ctl
theorem BE.le {G G' : Nat → Option Obj} (hg : Gle G G') {x : Batch} {cs : List Value} (h : BE G x cs) : BE G' x cs := by
  obtain ⟨A, c, h1, ⟨h2, h3, h4⟩, h5⟩ := h
  exact ⟨A, c, h1, ⟨h2, h3, h4.le hg fun _ _ h => h⟩, h5⟩
/-- Records in order, from an offset on, up to another one. -/
def rowF (last : Int) : Int → List Rec → Bool
  | _, [] => true
  | next, r :: rs => decide (chkR r = 0) && decide (next ≤ r.off) && decide (r.off ≤ last) && rowF last (r.off + 1) rs
def Form (b : Batch) : Prop :=
  (rng 1099511627776 b.base = true ∧ rng 1099511627776 b.last = true ∧ rng 1099511627776 b.src = true) ∧ (rng 1048576 b.epoch = true ∧ rng 1048576 b.gen = true ∧ rng 1048576 b.seq = true) ∧
    (b.base ≤ b.last ∧ b.last - b.base < 16 ∧ b.src + (b.last - b.base) ≤ 1099511627776 ∧ b.seq + (b.last - b.base) ≤ 1048576) ∧ (-1 ≤ b.pid ∧ b.pid ≤ 1099511627776) ∧ (b.pid = -1 → b.gen = 0 ∧ b.seq = 0 ∧ b.txn = false ∧ b.ctl = 0) ∧
    ((b.ctl = 0 ∧ rowF b.last b.base b.recs = true) ∨ ((b.ctl = 1 ∨ b.ctl = 2) ∧ b.last - b.base = 0 ∧ b.recs = [] ∧ b.txn = true))
instance decForm (b : Batch) : Decidable (Form b) := by
  unfold Form
  infer_instance
theorem within_row (m : Int) (y : Int) (l : List Int) (v : Value) (n : Nat) (ys : List Value) (hc : Cells IE 1 (y :: l) ys) (G : Nat → Option Obj) (L : List Kx.Item) (D : List Nat) :
    CallsH Try.prog 59 #[.int .i64 m, v] ⟨G, .row v 3 1 n ys :: L, D⟩ fun r h' => r = .bool ((y :: l).all (rng m)) ∧ h' = ⟨G, .row v 3 1 n ys :: L, D⟩ :=
  lend1 (E := IE) (xs := y :: l) (R := fun r => r = .bool ((y :: l).all (rng m))) F59.enters (by decide) hc fun G' hg hx => by
    have := within_ok m y l v G' hx L D
    simpa using this
theorem cells3 {a b c : Int} (ha : I64 a) (hb : I64 b) (hc : I64 c) : Cells IE 1 [a, b, c] [.int .i64 a, .int .i64 b, .int .i64 c] :=
  .cons (cs := [.int .i64 a]) ⟨rfl, ha⟩ rfl (.cons (cs := [.int .i64 b]) ⟨rfl, hb⟩ rfl (.one (cs := [.int .i64 c]) ⟨rfl, hc⟩ rfl))
theorem formed_ok (x : Batch) (cs : List Value) (G : Nat → Option Obj) (hx : BE G x cs) : FnS Try.prog 47 #[.agg cs.toArray] G (.bool (decide (Form x))) := by
  obtain ⟨A, c, rfl, ⟨hc, hm, hA⟩, i1, i2, i3, i4, i5, i6, i7, i8⟩ := hx
  refine F47.fnS (by simp) (go_of ?_)
  unfold c47 cellH
  (intros; try refine go_st ?_); refine go_r 0 0 (by decide) ?_; (refine sJ c47r0.eq_1 ?_; try with_reducible exact True.intro)
  have hbad : ∀ (fr : List Td) (e : Env) (L : List Kx.Item), ¬ Form x → go none Try.prog 131 v47.1 v47.2 (retQ o47 fun v h => v = .bool (decide (Form x))) (Td.s ((SC.reg false c47r2).seq .ret) :: fr) e ⟨G, L, []⟩ := fun fr e L hx => by
    (intros; try refine go_st ?_); refine go_r 0 0 (by decide) ?_; (refine sJ c47r2.eq_1 ?_; try with_reducible exact True.intro)
    (intros; try refine go_st ?_)
    refine go_ret (retQ_v rfl ?_); simp only [push_cast, Nat.reduceBEq]
    rw [decide_eq_false hx]
  (intros; try refine go_st ?_); refine go_r 8 26 (by decide) ?_; (refine sJ c47r1.eq_1 ?_; try with_reducible exact True.intro)
  intro b1 hb1
  refine (within_row 1099511627776 _ _ _ _ _ (cells3 i1 i2 i3) _ _ _).mono ?_; rintro _ _ ⟨rfl, rfl⟩; (refine sI ?_; try with_reducible exact True.intro)
  refine gd (fun h1 => ?_) (fun h1 => ?_)
  · (refine sI ?_; try with_reducible exact True.intro)
    (intros; try refine go_st ?_); refine go_c ?_; (refine sI ?_; try with_reducible exact True.intro)
    refine hbad _ _ _ fun h => ?_
    simp [h.1.1, h.1.2.1, h.1.2.2] at h1
  (refine sI ?_; try with_reducible exact True.intro)
  intro b2 hb2
  refine (within_row 1048576 _ _ _ _ _ (cells3 i4 i6 i7) _ _ _).mono ?_; rintro _ _ ⟨rfl, rfl⟩; (refine sI ?_; try with_reducible exact True.intro)
  (intros; try refine go_st ?_); refine go_c ?_; (refine sI ?_; try with_reducible exact True.intro)
  refine gb (fun h2 => ?_) (fun h2 => ?_)
  · refine hbad _ _ _ fun h => ?_
    simp [h.2.1.1, h.2.1.2.1, h.2.1.2.2] at h2
  have h1 : rng 1099511627776 x.base = true ∧ rng 1099511627776 x.last = true ∧ rng 1099511627776 x.src = true := by simpa using h1
  have h2 : rng 1048576 x.epoch = true ∧ rng 1048576 x.gen = true ∧ rng 1048576 x.seq = true := by simpa using h2
  have h1' := h1
  have h2' := h2
  simp [rng] at h1' h2'
  have w1 : IntKind.i64.wrap (x.last - x.base) = x.last - x.base := by rw [w64_id] <;> omega
  (repeat first | refine go_skip ?_ | refine go_b ?_)
  (intros; try refine go_st ?_); refine go_r 28 32 (by decide) ?_; (refine sJ2 c47r3.eq_1 @w1 ?_; try with_reducible exact True.intro)
  have hb5 : ∀ (fr : List Td) (e : Env) (L : List Kx.Item), ¬ Form x → go none Try.prog 131 v47.1 v47.2 (retQ o47 fun v h => v = .bool (decide (Form x))) (Td.s ((SC.reg false c47r5).seq .ret) :: fr) e ⟨G, L, []⟩ := fun fr e L hx => by
    (intros; try refine go_st ?_); refine go_r 0 0 (by decide) ?_; (refine sJ c47r5.eq_1 ?_; try with_reducible exact True.intro)
    (intros; try refine go_st ?_)
    refine go_ret (retQ_v rfl ?_); simp only [push_cast, Nat.reduceBEq]
    rw [decide_eq_false hx]
  have hb7 : ∀ (fr : List Td) (e : Env) (L : List Kx.Item), ¬ Form x → go none Try.prog 131 v47.1 v47.2 (retQ o47 fun v h => v = .bool (decide (Form x))) (Td.s ((SC.reg false c47r7).seq .ret) :: fr) e ⟨G, L, []⟩ := fun fr e L hx => by
    (intros; try refine go_st ?_); refine go_r 0 0 (by decide) ?_; (refine sJ c47r7.eq_1 ?_; try with_reducible exact True.intro)
    (intros; try refine go_st ?_)
    refine go_ret (retQ_v rfl ?_); simp only [push_cast, Nat.reduceBEq]
    rw [decide_eq_false hx]
  have hb9 : ∀ (fr : List Td) (e : Env) (L : List Kx.Item), ¬ Form x → go none Try.prog 131 v47.1 v47.2 (retQ o47 fun v h => v = .bool (decide (Form x))) (Td.s ((SC.reg false c47r9).seq .ret) :: fr) e ⟨G, L, []⟩ := fun fr e L hx => by
    (intros; try refine go_st ?_); refine go_r 0 0 (by decide) ?_; (refine sJ c47r9.eq_1 ?_; try with_reducible exact True.intro)
    (intros; try refine go_st ?_)
    refine go_ret (retQ_v rfl ?_); simp only [push_cast, Nat.reduceBEq]
    rw [decide_eq_false hx]
  have hb17 : ∀ (fr : List Td) (e : Env) (L : List Kx.Item), ¬ Form x → go none Try.prog 131 v47.1 v47.2 (retQ o47 fun v h => v = .bool (decide (Form x))) (Td.s ((SC.reg false c47r17).seq .ret) :: fr) e ⟨G, L, []⟩ := fun fr e L hx => by
    (intros; try refine go_st ?_); refine go_r 0 0 (by decide) ?_; (refine sJ c47r17.eq_1 ?_; try with_reducible exact True.intro)
    (intros; try refine go_st ?_)
    refine go_ret (retQ_v rfl ?_); simp only [push_cast, Nat.reduceBEq]
    rw [decide_eq_false hx]
  have w2 : ∀ (h : 0 ≤ x.last - x.base), IntKind.i64.wrap (x.src + (x.last - x.base)) = x.src + (x.last - x.base) := fun h => by rw [w64_id] <;> omega
  have w3 : ∀ (h : 0 ≤ x.last - x.base), IntKind.i64.wrap (x.seq + (x.last - x.base)) = x.seq + (x.last - x.base) := fun h => by rw [w64_id] <;> omega
  have w4 : IntKind.i64.wrap (x.gen + x.seq) = x.gen + x.seq := by rw [w64_id] <;> omega
  (intros; try refine go_st ?_); refine go_r 33 53 (by decide) ?_; (refine sJ c47r4.eq_1 ?_; try with_reducible exact True.intro)
  refine gd (fun h3 => ?_) (fun h3 => ?_)
  · (refine sI ?_; try with_reducible exact True.intro)
    (intros; try refine go_st ?_); refine go_c ?_; (refine sI ?_; try with_reducible exact True.intro)
    exact hb5 _ _ _ fun h => by have := of_decide_eq_true h3; have := h.2.2.1.1; omega
  have h3 := of_decide_eq_false h3
  (refine sI ?_; try with_reducible exact True.intro)
  refine gd (fun h4 => ?_) (fun h4 => ?_)
  · (refine sI ?_; try with_reducible exact True.intro)
    (intros; try refine go_st ?_); refine go_c ?_; (refine sI ?_; try with_reducible exact True.intro)
    exact hb5 _ _ _ fun h => by have := of_decide_eq_true h4; have := h.2.2.1.2.1; omega
  have h4 := of_decide_eq_false h4
  (refine sJ (w2 (by omega)) ?_; try with_reducible exact True.intro)
  refine gd (fun h5 => ?_) (fun h5 => ?_)
  · (refine sI ?_; try with_reducible exact True.intro)
    (intros; try refine go_st ?_); refine go_c ?_; (refine sI ?_; try with_reducible exact True.intro)
    exact hb5 _ _ _ fun h => by have := of_decide_eq_true h5; have := h.2.2.1.2.2.1; omega
  have h5 := of_decide_eq_false h5
  (refine sJ (w3 (by omega)) ?_; try with_reducible exact True.intro)
  (intros; try refine go_st ?_); refine go_c ?_; (refine sI ?_; try with_reducible exact True.intro)
  refine gb (fun h6 => ?_) (fun h6 => ?_)
  · exact hb5 _ _ _ fun h => by have := of_decide_eq_true h6; have := h.2.2.1.2.2.2; omega
  have h6 := of_decide_eq_false h6
  (intros; try refine go_st ?_); refine go_r 55 62 (by decide) ?_; (refine sJ c47r6.eq_1 ?_; try with_reducible exact True.intro)
  refine gd (fun h7 => ?_) (fun h7 => ?_)
  · (refine sI ?_; try with_reducible exact True.intro)
    (intros; try refine go_st ?_); refine go_c ?_; (refine sI ?_; try with_reducible exact True.intro)
    exact hb7 _ _ _ fun h => by have := of_decide_eq_true h7; have := h.2.2.2.1.1; omega
  have h7 := of_decide_eq_false h7
  (refine sI ?_; try with_reducible exact True.intro)
  (intros; try refine go_st ?_); refine go_c ?_; (refine sI ?_; try with_reducible exact True.intro)
  refine gb (fun h8 => ?_) (fun h8 => ?_)
  · exact hb7 _ _ _ fun h => by have := of_decide_eq_true h8; have := h.2.2.2.1.2; omega
  have h8 := of_decide_eq_false h8
  (intros; try refine go_st ?_); refine go_r 64 83 (by decide) ?_; (refine sJ c47r8.eq_1 ?_; try with_reducible exact True.intro)
  have hrest : ∀ (e : Env), (x.pid = -1 → x.gen = 0 ∧ x.seq = 0 ∧ x.txn = false ∧ x.ctl = 0) → e 3 = .int .i64 (x.last - x.base) →
      go none Try.prog 131 v47.1 v47.2 (retQ o47 fun v h => v = .bool (decide (Form x))) [Td.s (((SC.reg false c47r10).seq (SC.blk 1 ((SC.reg false c47r11).seq (SC.cond (O.t 85) ((SC.reg false c47r12).seq (((SC.reg false c47r13).seq (SC.blk 2 ((SC.reg false c47r14).seq ((SC.cond (O.t 93) SC.skip (SC.exit 2)).seq ((SC.blk 3 ((SC.reg false c47r15).seq (((SC.reg false c47r16).seq (SC.cond (O.t 111) ((SC.reg false c47r17).seq SC.ret) SC.skip)).seq (SC.reg false c47r18)))).seq (SC.reg false c47r19)))).loop)).seq ((SC.reg false c47r20).seq SC.ret))) (((SC.reg false c47r21).seq (SC.cond (O.t 116) SC.skip (SC.reg false c47r22))).seq (SC.cond (O.t 116) ((SC.reg false c47r23).seq SC.ret) SC.skip)))))).seq ((SC.reg false c47r24).seq SC.ret))] e ⟨G, [.reg 1 [.int .i64 x.base, .int .i64 x.last, .int .i64 x.src, .int .i64 x.epoch, .int .i64 x.pid, .int .i64 x.gen, .int .i64 x.seq, .bool x.txn, .int .i64 x.ctl, .slice A x.recs.length c]], []⟩ := fun e hpid e3 => by
    refine go_keep [3] ?_
    (refine sJ @e3 ?_; try with_reducible exact True.intro)
    (intros; try refine go_st ?_); refine go_r 0 0 (by decide) ?_; (refine sJ c47r10.eq_1 ?_; try with_reducible exact True.intro)
    (intros; try refine go_st ?_); refine go_r 86 87 (by decide) ?_; (refine sJ c47r11.eq_1 ?_; try with_reducible exact True.intro)
    (intros; try refine go_st ?_); refine go_c ?_; (refine sI ?_; try with_reducible exact True.intro)
    have hmk : ((x.ctl = 0 ∧ rowF x.last x.base x.recs = true) ∨ ((x.ctl = 1 ∨ x.ctl = 2) ∧ x.last - x.base = 0 ∧ x.recs = [] ∧ x.txn = true)) → Form x := fun h => ⟨h1, h2, ⟨by omega, by omega, by omega, by omega⟩, ⟨by omega, by omega⟩, hpid, h⟩
    refine gb (fun k1 => ?_) (fun k1 => ?_)
    · have k1 := of_decide_eq_true k1
      (intros; try refine go_st ?_); refine go_r 88 89 (by decide) ?_; (refine sJ c47r12.eq_1 ?_; try with_reducible exact True.intro)
      (intros; try refine go_st ?_); refine go_r 0 0 (by decide) ?_; (refine sJ c47r13.eq_1 ?_; try with_reducible exact True.intro)
      (intros; try refine go_st ?_)
      refine go_loop (fun e h => ∃ (k : Nat) (nx : Int), (k ≤ x.recs.length ∧ rowF x.last x.base x.recs = rowF x.last nx (x.recs.drop k)) ∧ e 92 = .int .i64 k ∧ e 91 = .int .i64 x.recs.length ∧ e 90 = .slice A x.recs.length c ∧ e 4 = .int .i64 nx ∧ h.G = G ∧ h.D = [] ∧ [.reg 1 [.int .i64 x.base, .int .i64 x.last, .int .i64 x.src, .int .i64 x.epoch, .int .i64 x.pid, .int .i64 x.gen, .int .i64 x.seq, .bool x.txn, .int .i64 x.ctl, .slice A x.recs.length c]].Sublist h.L) (fun e h => x.recs.length - iv (e 92)) ?_ ?_
      · exact ⟨0, x.base, ⟨Nat.zero_le _, rfl⟩, eE, eE, eE, eE, rfl, rfl, List.Sublist.refl _⟩
      · rintro e ⟨G', L, D⟩ ⟨k, nx, ⟨hk, hrow⟩, e92, e91, e90, e4, hG, hD, hL⟩
        dsimp only at hG hD hL
        subst hG hD
        refine go_ghost (ghost_sub hL) ?_
        refine go_keep [4, 90, 91, 92] ?_
        (refine sJ4 @e4 @e90 @e91 @e92 ?_; try with_reducible exact True.intro)
        (intros; try refine go_st ?_); refine go_r 0 0 (by decide) ?_; (refine sJ c47r14.eq_1 ?_; try with_reducible exact True.intro)
        (intros; try refine go_st ?_); refine go_c ?_; (refine sI ?_; try with_reducible exact True.intro)
        refine gb (fun ht => ?_) (fun ht => ?_)
        · have hkl : k < x.recs.length := by simpa using ht
          have hw3 := inc_i k c (by omega) hm
          obtain ⟨r, hr⟩ : ∃ r, x.recs[k]? = some r := ⟨x.recs[k], List.getElem?_eq_getElem (by omega)⟩
          have hdr : x.recs.drop k = r :: x.recs.drop (k + 1) := by
            have := List.getElem?_eq_some_iff.1 hr
            rw [List.drop_eq_getElem_cons hkl, this.2]
          rw [hdr] at hrow
          simp only [rowF] at hrow
          have hno : rowF x.last x.base x.recs = false → ¬ Form x := fun h h' => by
            rcases h'.2.2.2.2.2 with h9 | h9
            · rw [h] at h9; cases h9.2
            · omega
          (intros; try refine go_st ?_); refine go_r 94 96 (by decide) ?_; (refine sJ c47r15.eq_1 ?_; try with_reducible exact True.intro)
          refine hA.x_ld hr rfl rfl ?_
          rintro a1 ha1 cs ⟨rfl, ⟨j1, j2⟩, j3, j4⟩
          unfold cellR
          (refine sI ?_; try with_reducible exact True.intro)
          have hck := Check_ok r
          unfold cellR at hck
          (intros; try refine go_st ?_); refine go_r 96 111 (by decide) ?_; (refine sJ c47r16.eq_1 ?_; try with_reducible exact True.intro)
          refine (hck G' _ _).mono ?_; rintro _ _ ⟨rfl, rfl⟩; (refine sI ?_; try with_reducible exact True.intro)
          refine gd (fun k2 => ?_) (fun k2 => ?_)
          · (refine sI ?_; try with_reducible exact True.intro)
            (intros; try refine go_st ?_); refine go_c ?_; (refine sI ?_; try with_reducible exact True.intro)
            exact hb17 _ _ _ (hno (by rw [hrow]; simp at k2; simp [k2]))
          have k2 : chkR r = 0 := by simpa using k2
          (refine sI ?_; try with_reducible exact True.intro)
          refine gd (fun k3 => ?_) (fun k3 => ?_)
          · (refine sI ?_; try with_reducible exact True.intro)
            (intros; try refine go_st ?_); refine go_c ?_; (refine sI ?_; try with_reducible exact True.intro)
            exact hb17 _ _ _ (hno (by rw [hrow]; have := of_decide_eq_true k3; simp; omega))
          have k3 := of_decide_eq_false k3
          (refine sI ?_; try with_reducible exact True.intro)
          (intros; try refine go_st ?_); refine go_c ?_; (refine sI ?_; try with_reducible exact True.intro)
          refine gb (fun k4 => ?_) (fun k4 => ?_)
          · exact hb17 _ _ _ (hno (by rw [hrow]; have := of_decide_eq_true k4; simp; omega))
          have k4 := of_decide_eq_false k4
          have hoff := (chk_small k2).1.1
          simp [inO] at hoff
          have w5 : IntKind.i64.wrap (r.off + 1) = r.off + 1 := by rw [w64_id] <;> omega
          (repeat first | refine go_skip ?_ | refine go_b ?_)
          (intros; try refine go_st ?_); refine go_r 113 115 (by decide) ?_; (refine sJ2 c47r18.eq_1 @w5 ?_; try with_reducible exact True.intro)
          (intros; try refine go_st ?_); refine go_r 115 116 (by decide) ?_; (refine sJ2 c47r19.eq_1 @hw3 ?_; try with_reducible exact True.intro)
          (intros; try refine go_st ?_)
          refine go_l ⟨⟨k + 1, r.off + 1, ⟨by omega, by rw [hrow]; simp [k2]; omega⟩, eE, eE, eE, eE, rfl, rfl, .cons _ (List.Sublist.refl _)⟩, ?_⟩
          (refine sI ?_; try with_reducible exact True.intro)
          omega
        · have hkl : k = x.recs.length := by simp at ht; omega
          subst hkl
          refine go_exit ?_
          (refine sI ?_; try with_reducible exact True.intro)
          (intros; try refine go_st ?_); refine go_r 0 0 (by decide) ?_; (refine sJ c47r20.eq_1 ?_; try with_reducible exact True.intro)
          (intros; try refine go_st ?_)
          refine go_ret (retQ_v rfl ?_); simp only [push_cast, Nat.reduceBEq]
          rw [List.drop_length] at hrow
          rw [decide_eq_true (hmk (.inl ⟨k1, hrow⟩))]
    · have k1 := of_decide_eq_false k1
      have hb24 : ∀ (fr : List Td) (e : Env) (L : List Kx.Item), ¬ Form x → go none Try.prog 131 v47.1 v47.2 (retQ o47 fun v h => v = .bool (decide (Form x))) (Td.s ((SC.reg false c47r24).seq .ret) :: fr) e ⟨G, L, []⟩ := fun fr e L hx => by
        (intros; try refine go_st ?_); refine go_r 0 0 (by decide) ?_; (refine sJ c47r24.eq_1 ?_; try with_reducible exact True.intro)
        (intros; try refine go_st ?_)
        refine go_ret (retQ_v rfl ?_); simp only [push_cast, Nat.reduceBEq]
        rw [decide_eq_false hx]
      have hfin : ∀ (fr : List Td) (e : Env), (x.ctl = 1 ∨ x.ctl = 2) → e 3 = .int .i64 (x.last - x.base) → go none Try.prog 131 v47.1 v47.2 (retQ o47 fun v h => v = .bool (decide (Form x))) (Td.s ((SC.reg false c47r23).seq .ret) :: fr) e ⟨G, [.reg 1 [.int .i64 x.base, .int .i64 x.last, .int .i64 x.src, .int .i64 x.epoch, .int .i64 x.pid, .int .i64 x.gen, .int .i64 x.seq, .bool x.txn, .int .i64 x.ctl, .slice A x.recs.length c]], []⟩ := fun fr e hc12 e3 => by
        refine go_keep [3] ?_
        (refine sJ @e3 ?_; try with_reducible exact True.intro)
        have hnf : ∀ (_ : ¬ (x.last - x.base = 0 ∧ x.recs = [] ∧ x.txn = true)), decide (Form x) = false := fun hn => decide_eq_false fun h => by
          rcases h.2.2.2.2.2 with h9 | h9
          · exact k1 h9.1
          · exact hn h9.2
        (intros; try refine go_st ?_); refine go_r 119 131 (by decide) ?_; (refine sJ c47r23.eq_1 ?_; try with_reducible exact True.intro)
        refine gd (fun k2 => ?_) (fun k2 => ?_)
        · have k2 := of_decide_eq_true k2
          (refine sI ?_; try with_reducible exact True.intro)
          refine gd (fun k3 => ?_) (fun k3 => ?_)
          · have k3 : x.recs = [] := by have := of_decide_eq_true k3; exact List.eq_nil_of_length_eq_zero (by omega)
            (refine sI ?_; try with_reducible exact True.intro)
            (intros; try refine go_st ?_)
            refine go_ret (retQ_v rfl ?_); simp only [push_cast, Nat.reduceBEq]
            cases ht : x.txn with
            | false => rw [hnf fun h => by rw [ht] at h; cases h.2.2]
            | true => rw [decide_eq_true (hmk (.inr ⟨hc12, k2, k3, ht⟩))]
          · have k3 := of_decide_eq_false k3
            (refine sI ?_; try with_reducible exact True.intro)
            (intros; try refine go_st ?_)
            refine go_ret (retQ_v rfl ?_); simp only [push_cast, Nat.reduceBEq]
            rw [hnf fun h => k3 (by rw [h.2.1]; rfl)]
        · have k2 := of_decide_eq_false k2
          (refine sI ?_; try with_reducible exact True.intro)
          (intros; try refine go_st ?_)
          refine go_ret (retQ_v rfl ?_); simp only [push_cast, Nat.reduceBEq]
          rw [hnf fun h => k2 h.1]
      (intros; try refine go_st ?_); refine go_r 117 118 (by decide) ?_; (refine sJ c47r21.eq_1 ?_; try with_reducible exact True.intro)
      (intros; try refine go_st ?_); refine go_c ?_; (refine sI ?_; try with_reducible exact True.intro)
      refine gb (fun k2 => ?_) (fun k2 => ?_)
      · (repeat first | refine go_skip ?_ | refine go_b ?_)
        (intros; try refine go_st ?_); refine go_c ?_; (refine sI ?_; try with_reducible exact True.intro)
        refine gb (fun _ => ?_) (fun h => by rw [k2] at h; cases h)
        refine hfin _ _ (.inl (of_decide_eq_true k2)) ?_
        (refine sI ?_; try with_reducible exact True.intro)
      · have k2 := of_decide_eq_false k2
        (intros; try refine go_st ?_); refine go_r 118 119 (by decide) ?_; (refine sJ c47r22.eq_1 ?_; try with_reducible exact True.intro)
        (intros; try refine go_st ?_); refine go_c ?_; (refine sI ?_; try with_reducible exact True.intro)
        refine gb (fun k3 => ?_) (fun k3 => ?_)
        · refine hfin _ _ (.inr (of_decide_eq_true k3)) ?_
          (refine sI ?_; try with_reducible exact True.intro)
        · have k3 := of_decide_eq_false k3
          (repeat first | refine go_skip ?_ | refine go_b ?_)
          refine hb24 _ _ _ fun h => ?_
          rcases h.2.2.2.2.2 with h9 | h9
          · exact k1 h9.1
          · rcases h9.1 with h9 | h9
            · exact k2 h9
            · exact k3 h9
  refine gd (fun h9 => ?_) (fun h9 => ?_)
  · have h9 := of_decide_eq_true h9
    (refine sJ @w4 ?_; try with_reducible exact True.intro)
    refine gd (fun h10 => ?_) (fun h10 => ?_)
    · (refine sI ?_; try with_reducible exact True.intro)
      (intros; try refine go_st ?_); refine go_c ?_; (refine sI ?_; try with_reducible exact True.intro)
      exact hb9 _ _ _ fun h => by have := of_decide_eq_true h10; have := h.2.2.2.2.1 h9; omega
    have h10 := of_decide_eq_false h10
    (refine sI ?_; try with_reducible exact True.intro)
    refine gd (fun h11 => ?_) (fun h11 => ?_)
    · (refine sI ?_; try with_reducible exact True.intro)
      (intros; try refine go_st ?_); refine go_c ?_; (refine sI ?_; try with_reducible exact True.intro)
      exact hb9 _ _ _ fun h => by have := (h.2.2.2.2.1 h9).2.2.1; rw [h11] at this; cases this
    (refine sI ?_; try with_reducible exact True.intro)
    (intros; try refine go_st ?_); refine go_c ?_; (refine sI ?_; try with_reducible exact True.intro)
    refine gb (fun h12 => ?_) (fun h12 => ?_)
    · exact hb9 _ _ _ fun h => by have := of_decide_eq_true h12; have := (h.2.2.2.2.1 h9).2.2.2; omega
    have h12 := of_decide_eq_false h12
    (repeat first | refine go_skip ?_ | refine go_b ?_)
    refine go_ghost (ghost_sub (.cons _ (.cons _ (List.Sublist.refl _)))) ?_
    refine hrest _ (fun _ => ⟨by omega, by omega, h11, by omega⟩) ?_
    (refine sI ?_; try with_reducible exact True.intro)
  · have h9 := of_decide_eq_false h9
    (refine sI ?_; try with_reducible exact True.intro)
    (intros; try refine go_st ?_); refine go_c ?_; (refine sI ?_; try with_reducible exact True.intro)
    (repeat first | refine go_skip ?_ | refine go_b ?_)
    refine go_ghost (ghost_sub (.cons _ (.cons _ (List.Sublist.refl _)))) ?_
    refine hrest _ (fun h => absurd h h9) ?_
    (refine sI ?_; try with_reducible exact True.intro)
end Go.Proofs.Ytfhheomeebejnaa

/- Bytes, part 11 of a proof: batches that have form, by the document. No condition. -/
set_option linter.unusedSimpArgs false
set_option linter.unusedVariables false
namespace Go.Proofs.Ytfhheomeebejnaa
open Go Go.Kx
theorem F65 : Fun Try.prog 65 165 v65 c65 o65 := Fun.mk' Try.func65 Try.ntmps65 (by kernel_rfl) (by kernel_rfl) s65 q65
theorem rng_f {m n : Int} (h : (!rng m n) = true) : ¬ rng m n = true := by simpa using h
theorem rng_t {m n : Int} (h : (!rng m n) = false) : 0 ≤ n ∧ n ≤ m := by simpa [rng] using h
theorem rng_i {m n : Int} (h : 0 ≤ n ∧ n ≤ m) : rng m n = true := by simp [rng, h]
theorem form_ok (x : Batch) (cs : List Value) (G : Nat → Option Obj) (hx : BE G x cs) : FnS Try.prog 65 #[.agg cs.toArray] G (.bool (decide (Form x))) := by
  obtain ⟨A, c, rfl, ⟨hc, hm, hA⟩, i1, i2, i3, i4, i5, i6, i7, i8⟩ := hx
  refine F65.fnS (by simp) (go_of ?_)
  unfold c65 cellH
  (intros; try refine go_st ?_); refine go_r 0 0 (by decide) ?_; (refine sJ c65r0.eq_1 ?_; try with_reducible exact True.intro)
  have hb2 : ∀ (fr : List Td) (e : Env) (L : List Kx.Item), ¬ Form x → go none Try.prog 165 v65.1 v65.2 (retQ o65 fun v h => v = .bool (decide (Form x))) (Td.s ((SC.reg false c65r2).seq .ret) :: fr) e ⟨G, L, []⟩ := fun fr e L hx => by
    (intros; try refine go_st ?_); refine go_r 0 0 (by decide) ?_; (refine sJ c65r2.eq_1 ?_; try with_reducible exact True.intro)
    (intros; try refine go_st ?_)
    refine go_ret (retQ_v rfl ?_); simp only [push_cast, Nat.reduceBEq]
    rw [decide_eq_false hx]
  have hb5 : ∀ (fr : List Td) (e : Env) (L : List Kx.Item), ¬ Form x → go none Try.prog 165 v65.1 v65.2 (retQ o65 fun v h => v = .bool (decide (Form x))) (Td.s ((SC.reg false c65r5).seq .ret) :: fr) e ⟨G, L, []⟩ := fun fr e L hx => by
    (intros; try refine go_st ?_); refine go_r 0 0 (by decide) ?_; (refine sJ c65r5.eq_1 ?_; try with_reducible exact True.intro)
    (intros; try refine go_st ?_)
    refine go_ret (retQ_v rfl ?_); simp only [push_cast, Nat.reduceBEq]
    rw [decide_eq_false hx]
  have hb7 : ∀ (fr : List Td) (e : Env) (L : List Kx.Item), ¬ Form x → go none Try.prog 165 v65.1 v65.2 (retQ o65 fun v h => v = .bool (decide (Form x))) (Td.s ((SC.reg false c65r7).seq .ret) :: fr) e ⟨G, L, []⟩ := fun fr e L hx => by
    (intros; try refine go_st ?_); refine go_r 0 0 (by decide) ?_; (refine sJ c65r7.eq_1 ?_; try with_reducible exact True.intro)
    (intros; try refine go_st ?_)
    refine go_ret (retQ_v rfl ?_); simp only [push_cast, Nat.reduceBEq]
    rw [decide_eq_false hx]
  have hb15 : ∀ (fr : List Td) (e : Env) (L : List Kx.Item), ¬ Form x → go none Try.prog 165 v65.1 v65.2 (retQ o65 fun v h => v = .bool (decide (Form x))) (Td.s ((SC.reg false c65r15).seq .ret) :: fr) e ⟨G, L, []⟩ := fun fr e L hx => by
    (intros; try refine go_st ?_); refine go_r 0 0 (by decide) ?_; (refine sJ c65r15.eq_1 ?_; try with_reducible exact True.intro)
    (intros; try refine go_st ?_)
    refine go_ret (retQ_v rfl ?_); simp only [push_cast, Nat.reduceBEq]
    rw [decide_eq_false hx]
  (intros; try refine go_st ?_); refine go_r 8 37 (by decide) ?_; (refine sJ c65r1.eq_1 ?_; try with_reducible exact True.intro)
  refine (rin_ok x.base _ G _ _).mono ?_; rintro _ _ ⟨rfl, rfl⟩; (refine sI ?_; try with_reducible exact True.intro)
  refine gd (fun h1 => ?_) (fun h1 => ?_)
  · (refine sI ?_; try with_reducible exact True.intro)
    (intros; try refine go_st ?_); refine go_c ?_; (refine sI ?_; try with_reducible exact True.intro)
    exact hb2 _ _ _ fun h => by exact rng_f h1 h.1.1
  have h1 := rng_t h1
  (refine sI ?_; try with_reducible exact True.intro)
  refine (rin_ok x.last _ G _ _).mono ?_; rintro _ _ ⟨rfl, rfl⟩; (refine sI ?_; try with_reducible exact True.intro)
  refine gd (fun h2 => ?_) (fun h2 => ?_)
  · (refine sI ?_; try with_reducible exact True.intro)
    (intros; try refine go_st ?_); refine go_c ?_; (refine sI ?_; try with_reducible exact True.intro)
    exact hb2 _ _ _ fun h => by exact rng_f h2 h.1.2.1
  have h2 := rng_t h2
  (refine sI ?_; try with_reducible exact True.intro)
  refine (rin_ok x.src _ G _ _).mono ?_; rintro _ _ ⟨rfl, rfl⟩; (refine sI ?_; try with_reducible exact True.intro)
  refine gd (fun h3 => ?_) (fun h3 => ?_)
  · (refine sI ?_; try with_reducible exact True.intro)
    (intros; try refine go_st ?_); refine go_c ?_; (refine sI ?_; try with_reducible exact True.intro)
    exact hb2 _ _ _ fun h => by exact rng_f h3 h.1.2.2
  have h3 := rng_t h3
  have w1 : IntKind.i64.wrap (x.last - x.base) = x.last - x.base := by rw [w64_id] <;> omega
  (refine sI ?_; try with_reducible exact True.intro)
  refine gd (fun h4 => ?_) (fun h4 => ?_)
  · (refine sI ?_; try with_reducible exact True.intro)
    (intros; try refine go_st ?_); refine go_c ?_; (refine sI ?_; try with_reducible exact True.intro)
    exact hb2 _ _ _ fun h => by have := of_decide_eq_true h4; have := h.2.2.1.1; omega
  have h4 := of_decide_eq_false h4
  (refine sJ @w1 ?_; try with_reducible exact True.intro)
  (intros; try refine go_st ?_); refine go_c ?_; (refine sI ?_; try with_reducible exact True.intro)
  refine gb (fun h5 => ?_) (fun h5 => ?_)
  · exact hb2 _ _ _ fun h => by have := of_decide_eq_true h5; have := h.2.2.1.2.1; omega
  have h5 := of_decide_eq_false h5
  (repeat first | refine go_skip ?_ | refine go_b ?_)
  (intros; try refine go_st ?_); refine go_r 39 43 (by decide) ?_; (refine sJ2 c65r3.eq_1 @w1 ?_; try with_reducible exact True.intro)
  have w2 : IntKind.i64.wrap (x.src + (x.last - x.base)) = x.src + (x.last - x.base) := by rw [w64_id] <;> omega
  (intros; try refine go_st ?_); refine go_r 44 72 (by decide) ?_; (refine sJ2 c65r4.eq_1 @w2 ?_; try with_reducible exact True.intro)
  refine gd (fun h6 => ?_) (fun h6 => ?_)
  · (refine sI ?_; try with_reducible exact True.intro)
    (intros; try refine go_st ?_); refine go_c ?_; (refine sI ?_; try with_reducible exact True.intro)
    exact hb5 _ _ _ fun h => by have := of_decide_eq_true h6; have := h.2.2.1.2.2.1; omega
  have h6 := of_decide_eq_false h6
  (refine sI ?_; try with_reducible exact True.intro)
  refine (rin_ok x.epoch _ G _ _).mono ?_; rintro _ _ ⟨rfl, rfl⟩; (refine sI ?_; try with_reducible exact True.intro)
  refine gd (fun h7 => ?_) (fun h7 => ?_)
  · (refine sI ?_; try with_reducible exact True.intro)
    (intros; try refine go_st ?_); refine go_c ?_; (refine sI ?_; try with_reducible exact True.intro)
    exact hb5 _ _ _ fun h => by exact rng_f h7 h.2.1.1
  have h7 := rng_t h7
  (refine sI ?_; try with_reducible exact True.intro)
  refine (rin_ok x.gen _ G _ _).mono ?_; rintro _ _ ⟨rfl, rfl⟩; (refine sI ?_; try with_reducible exact True.intro)
  refine gd (fun h8 => ?_) (fun h8 => ?_)
  · (refine sI ?_; try with_reducible exact True.intro)
    (intros; try refine go_st ?_); refine go_c ?_; (refine sI ?_; try with_reducible exact True.intro)
    exact hb5 _ _ _ fun h => by exact rng_f h8 h.2.1.2.1
  have h8 := rng_t h8
  (refine sI ?_; try with_reducible exact True.intro)
  refine (rin_ok x.seq _ G _ _).mono ?_; rintro _ _ ⟨rfl, rfl⟩; (refine sI ?_; try with_reducible exact True.intro)
  refine gd (fun h9 => ?_) (fun h9 => ?_)
  · (refine sI ?_; try with_reducible exact True.intro)
    (intros; try refine go_st ?_); refine go_c ?_; (refine sI ?_; try with_reducible exact True.intro)
    exact hb5 _ _ _ fun h => by exact rng_f h9 h.2.1.2.2
  have h9 := rng_t h9
  have w3 : IntKind.i64.wrap (x.seq + (x.last - x.base)) = x.seq + (x.last - x.base) := by rw [w64_id] <;> omega
  (refine sJ @w3 ?_; try with_reducible exact True.intro)
  (intros; try refine go_st ?_); refine go_c ?_; (refine sI ?_; try with_reducible exact True.intro)
  refine gb (fun k1 => ?_) (fun k1 => ?_)
  · exact hb5 _ _ _ fun h => by have := of_decide_eq_true k1; have := h.2.2.1.2.2.2; omega
  have k1 := of_decide_eq_false k1
  (repeat first | refine go_skip ?_ | refine go_b ?_)
  have hrest : ∀ (e : Env), (x.pid = -1 → x.gen = 0 ∧ x.seq = 0 ∧ x.txn = false ∧ x.ctl = 0) → (-1 ≤ x.pid ∧ x.pid ≤ 1099511627776) → e 3 = .int .i64 (x.last - x.base) →
      go none Try.prog 165 v65.1 v65.2 (retQ o65 fun v h => v = .bool (decide (Form x))) [Td.s (((SC.reg false c65r8).seq (SC.cond (O.t 108) ((SC.reg false c65r9).seq SC.ret) SC.skip)).seq ((SC.reg false c65r10).seq (((SC.reg false c65r11).seq (SC.blk 0 ((SC.reg false c65r12).seq ((SC.cond (O.t 143) SC.skip (SC.exit 0)).seq ((SC.blk 1 ((SC.reg false c65r13).seq (((SC.reg false c65r14).seq (SC.cond (O.t 161) ((SC.reg false c65r15).seq SC.ret) SC.skip)).seq (SC.reg false c65r16)))).seq (SC.reg false c65r17)))).loop)).seq ((SC.reg false c65r18).seq SC.ret))))] e ⟨G, [.reg 1 [.int .i64 x.base, .int .i64 x.last, .int .i64 x.src, .int .i64 x.epoch, .int .i64 x.pid, .int .i64 x.gen, .int .i64 x.seq, .bool x.txn, .int .i64 x.ctl, .slice A x.recs.length c]], []⟩ := fun e hpid hpr e3 => by
    refine go_keep [3] ?_
    (refine sJ @e3 ?_; try with_reducible exact True.intro)
    have hmk : ((x.ctl = 0 ∧ rowF x.last x.base x.recs = true) ∨ ((x.ctl = 1 ∨ x.ctl = 2) ∧ x.last - x.base = 0 ∧ x.recs = [] ∧ x.txn = true)) → Form x := fun h => ⟨⟨rng_i h1, rng_i h2, rng_i h3⟩, ⟨rng_i h7, rng_i h8, rng_i h9⟩, ⟨by omega, by omega, by omega, by omega⟩, hpr, hpid, h⟩
    (intros; try refine go_st ?_); refine go_r 107 108 (by decide) ?_; (refine sJ c65r8.eq_1 ?_; try with_reducible exact True.intro)
    (intros; try refine go_st ?_); refine go_c ?_; (refine sI ?_; try with_reducible exact True.intro)
    refine gb (fun k2 => ?_) (fun k2 => ?_)
    · have k2 := of_decide_eq_true k2
      have hnf : ∀ (_ : ¬ ((x.ctl = 1 ∨ x.ctl = 2) ∧ x.last - x.base = 0 ∧ x.recs = [] ∧ x.txn = true)), decide (Form x) = false := fun hn => decide_eq_false fun h => by
        rcases h.2.2.2.2.2 with h9 | h9
        · exact k2 h9.1
        · exact hn h9
      have hp0 : 0 ≤ x.pid := by
        by_cases hp : x.pid = -1
        · exact absurd (hpid hp).2.2.2 k2
        · omega
      (intros; try refine go_st ?_); refine go_r 110 136 (by decide) ?_; (refine sJ c65r9.eq_1 ?_; try with_reducible exact True.intro)
      have hfin : ∀ (l : List SI), True := fun _ => trivial
      refine gd (fun k3 => ?_) (fun k3 => ?_)
      · have k3 := of_decide_eq_true k3
        (refine sI ?_; try with_reducible exact True.intro)
        refine gd (fun a1 => ?_) (fun a1 => ?_)
        · have a1 := of_decide_eq_true a1
          (refine sI ?_; try with_reducible exact True.intro)
          refine gd (fun a2 => ?_) (fun a2 => ?_)
          · have a2 : x.recs = [] := by have := of_decide_eq_true a2; exact List.eq_nil_of_length_eq_zero (by omega)
            (refine sI ?_; try with_reducible exact True.intro)
            refine gd (fun a3 => ?_) (fun a3 => ?_)
            · (refine sI ?_; try with_reducible exact True.intro)
              (intros; try refine go_st ?_)
              refine go_ret (retQ_v rfl ?_); simp only [push_cast, Nat.reduceBEq]
              rw [decide_eq_true hp0, decide_eq_true (hmk (.inr ⟨.inl k3, a1, a2, a3⟩))]
            · (refine sI ?_; try with_reducible exact True.intro)
              (intros; try refine go_st ?_)
              refine go_ret (retQ_v rfl ?_); simp only [push_cast, Nat.reduceBEq]
              rw [hnf fun h => by rw [a3] at h; cases h.2.2.2]
          · have a2 := of_decide_eq_false a2
            (refine sI ?_; try with_reducible exact True.intro)
            (intros; try refine go_st ?_)
            refine go_ret (retQ_v rfl ?_); simp only [push_cast, Nat.reduceBEq]
            rw [hnf fun h => a2 (by rw [h.2.2.1]; rfl)]
        · have a1 := of_decide_eq_false a1
          (refine sI ?_; try with_reducible exact True.intro)
          (intros; try refine go_st ?_)
          refine go_ret (retQ_v rfl ?_); simp only [push_cast, Nat.reduceBEq]
          rw [hnf fun h => a1 h.2.1]
      · have k3 := of_decide_eq_false k3
        (refine sI ?_; try with_reducible exact True.intro)
        refine gd (fun k4 => ?_) (fun k4 => ?_)
        · have k4 := of_decide_eq_true k4
          (refine sI ?_; try with_reducible exact True.intro)
          refine gd (fun a1 => ?_) (fun a1 => ?_)
          · have a1 := of_decide_eq_true a1
            (refine sI ?_; try with_reducible exact True.intro)
            refine gd (fun a2 => ?_) (fun a2 => ?_)
            · have a2 : x.recs = [] := by have := of_decide_eq_true a2; exact List.eq_nil_of_length_eq_zero (by omega)
              (refine sI ?_; try with_reducible exact True.intro)
              refine gd (fun a3 => ?_) (fun a3 => ?_)
              · (refine sI ?_; try with_reducible exact True.intro)
                (intros; try refine go_st ?_)
                refine go_ret (retQ_v rfl ?_); simp only [push_cast, Nat.reduceBEq]
                rw [decide_eq_true hp0, decide_eq_true (hmk (.inr ⟨.inr k4, a1, a2, a3⟩))]
              · (refine sI ?_; try with_reducible exact True.intro)
                (intros; try refine go_st ?_)
                refine go_ret (retQ_v rfl ?_); simp only [push_cast, Nat.reduceBEq]
                rw [hnf fun h => by rw [a3] at h; cases h.2.2.2]
            · have a2 := of_decide_eq_false a2
              (refine sI ?_; try with_reducible exact True.intro)
              (intros; try refine go_st ?_)
              refine go_ret (retQ_v rfl ?_); simp only [push_cast, Nat.reduceBEq]
              rw [hnf fun h => a2 (by rw [h.2.2.1]; rfl)]
          · have a1 := of_decide_eq_false a1
            (refine sI ?_; try with_reducible exact True.intro)
            (intros; try refine go_st ?_)
            refine go_ret (retQ_v rfl ?_); simp only [push_cast, Nat.reduceBEq]
            rw [hnf fun h => a1 h.2.1]
        · have k4 := of_decide_eq_false k4
          (refine sI ?_; try with_reducible exact True.intro)
          (intros; try refine go_st ?_)
          refine go_ret (retQ_v rfl ?_); simp only [push_cast, Nat.reduceBEq]
          rw [hnf fun h => by rcases h.1 with h | h; exact k3 h; exact k4 h]
    · have k2 : x.ctl = 0 := by simpa using k2
      have w4 : IntKind.i64.wrap (x.base - 1) = x.base - 1 := by rw [w64_id] <;> omega
      (repeat first | refine go_skip ?_ | refine go_b ?_)
      (intros; try refine go_st ?_); refine go_r 137 139 (by decide) ?_; (refine sJ2 c65r10.eq_1 @w4 ?_; try with_reducible exact True.intro)
      (intros; try refine go_st ?_); refine go_r 0 0 (by decide) ?_; (refine sJ c65r11.eq_1 ?_; try with_reducible exact True.intro)
      (intros; try refine go_st ?_)
      refine go_loop (fun e h => ∃ (k : Nat) (nx : Int), (k ≤ x.recs.length ∧ rowF x.last x.base x.recs = rowF x.last nx (x.recs.drop k)) ∧ e 142 = .int .i64 k ∧ e 141 = .int .i64 x.recs.length ∧ e 140 = .slice A x.recs.length c ∧ e 4 = .int .i64 (nx - 1) ∧ h.G = G ∧ h.D = [] ∧ [.reg 1 [.int .i64 x.base, .int .i64 x.last, .int .i64 x.src, .int .i64 x.epoch, .int .i64 x.pid, .int .i64 x.gen, .int .i64 x.seq, .bool x.txn, .int .i64 x.ctl, .slice A x.recs.length c]].Sublist h.L) (fun e h => x.recs.length - iv (e 142)) ?_ ?_
      · exact ⟨0, x.base, ⟨Nat.zero_le _, rfl⟩, eE, eE, eE, eE, rfl, rfl, List.Sublist.refl _⟩
      · rintro e ⟨G', L, D⟩ ⟨k, nx, ⟨hk, hrow⟩, e142, e141, e140, e4, hG, hD, hL⟩
        dsimp only at hG hD hL
        subst hG hD
        refine go_ghost (ghost_sub hL) ?_
        refine go_keep [4, 140, 141, 142] ?_
        (refine sJ4 @e4 @e140 @e141 @e142 ?_; try with_reducible exact True.intro)
        (intros; try refine go_st ?_); refine go_r 0 0 (by decide) ?_; (refine sJ c65r12.eq_1 ?_; try with_reducible exact True.intro)
        (intros; try refine go_st ?_); refine go_c ?_; (refine sI ?_; try with_reducible exact True.intro)
        refine gb (fun ht => ?_) (fun ht => ?_)
        · have hkl : k < x.recs.length := by simpa using ht
          have hw3 := inc_i k c (by omega) hm
          obtain ⟨r, hr⟩ : ∃ r, x.recs[k]? = some r := ⟨x.recs[k], List.getElem?_eq_getElem (by omega)⟩
          have hdr : x.recs.drop k = r :: x.recs.drop (k + 1) := by
            have := List.getElem?_eq_some_iff.1 hr
            rw [List.drop_eq_getElem_cons hkl, this.2]
          rw [hdr] at hrow
          simp only [rowF] at hrow
          have hno : rowF x.last x.base x.recs = false → ¬ Form x := fun h h' => by
            rcases h'.2.2.2.2.2 with h9 | h9
            · rw [h] at h9; cases h9.2
            · omega
          (intros; try refine go_st ?_); refine go_r 144 146 (by decide) ?_; (refine sJ c65r13.eq_1 ?_; try with_reducible exact True.intro)
          refine hA.x_ld hr rfl rfl ?_
          rintro a1 ha1 cs ⟨rfl, ⟨j1, j2⟩, j3, j4⟩
          unfold cellR
          (refine sI ?_; try with_reducible exact True.intro)
          have hck := RCheck_ok r
          unfold cellR at hck
          (intros; try refine go_st ?_); refine go_r 146 161 (by decide) ?_; (refine sJ c65r14.eq_1 ?_; try with_reducible exact True.intro)
          refine (hck G' _ _).mono ?_; rintro _ _ ⟨rfl, rfl⟩; (refine sI ?_; try with_reducible exact True.intro)
          refine gd (fun k3 => ?_) (fun k3 => ?_)
          · (refine sI ?_; try with_reducible exact True.intro)
            (intros; try refine go_st ?_); refine go_c ?_; (refine sI ?_; try with_reducible exact True.intro)
            exact hb15 _ _ _ (hno (by rw [hrow]; simp at k3; simp [k3]))
          have k3 : chkR r = 0 := by simpa using k3
          (refine sI ?_; try with_reducible exact True.intro)
          refine gd (fun k4 => ?_) (fun k4 => ?_)
          · (refine sI ?_; try with_reducible exact True.intro)
            (intros; try refine go_st ?_); refine go_c ?_; (refine sI ?_; try with_reducible exact True.intro)
            exact hb15 _ _ _ (hno (by rw [hrow]; have := of_decide_eq_true k4; simp; omega))
          have k4 := of_decide_eq_false k4
          (refine sI ?_; try with_reducible exact True.intro)
          (intros; try refine go_st ?_); refine go_c ?_; (refine sI ?_; try with_reducible exact True.intro)
          refine gb (fun k5 => ?_) (fun k5 => ?_)
          · exact hb15 _ _ _ (hno (by rw [hrow]; have := of_decide_eq_true k5; simp; omega))
          have k5 := of_decide_eq_false k5
          have hoff : r.off = r.off + 1 - 1 := by omega
          (repeat first | refine go_skip ?_ | refine go_b ?_)
          (intros; try refine go_st ?_); refine go_r 163 164 (by decide) ?_; (refine sJ c65r16.eq_1 ?_; try with_reducible exact True.intro)
          (intros; try refine go_st ?_); refine go_r 164 165 (by decide) ?_; (refine sJ2 c65r17.eq_1 @hw3 ?_; try with_reducible exact True.intro)
          (intros; try refine go_st ?_)
          refine go_l ⟨⟨k + 1, r.off + 1, ⟨by omega, by rw [hrow]; simp [k3]; omega⟩, eE, eE, eE, by rw [← hoff]; (refine sI ?_; try with_reducible exact True.intro), rfl, rfl, .cons _ (List.Sublist.refl _)⟩, ?_⟩
          (refine sI ?_; try with_reducible exact True.intro)
          omega
        · have hkl : k = x.recs.length := by simp at ht; omega
          subst hkl
          refine go_exit ?_
          (refine sI ?_; try with_reducible exact True.intro)
          (intros; try refine go_st ?_); refine go_r 0 0 (by decide) ?_; (refine sJ c65r18.eq_1 ?_; try with_reducible exact True.intro)
          (intros; try refine go_st ?_)
          refine go_ret (retQ_v rfl ?_); simp only [push_cast, Nat.reduceBEq]
          rw [List.drop_length] at hrow
          rw [decide_eq_true (hmk (.inl ⟨k2, hrow⟩))]
  (intros; try refine go_st ?_); refine go_r 74 105 (by decide) ?_; (refine sJ c65r6.eq_1 ?_; try with_reducible exact True.intro)
  refine gd (fun q1 => ?_) (fun q1 => ?_)
  · have q1 := of_decide_eq_true q1
    (refine sI ?_; try with_reducible exact True.intro)
    refine gd (fun q2 => ?_) (fun q2 => ?_)
    · (refine sI ?_; try with_reducible exact True.intro)
      (intros; try refine go_st ?_); refine go_c ?_; (refine sI ?_; try with_reducible exact True.intro)
      exact hb7 _ _ _ fun h => by have := of_decide_eq_true q2; exact this (h.2.2.2.2.1 q1).1
    have q2 := of_decide_eq_false q2
    (refine sI ?_; try with_reducible exact True.intro)
    refine gd (fun q3 => ?_) (fun q3 => ?_)
    · (refine sI ?_; try with_reducible exact True.intro)
      (intros; try refine go_st ?_); refine go_c ?_; (refine sI ?_; try with_reducible exact True.intro)
      exact hb7 _ _ _ fun h => by have := of_decide_eq_true q3; exact this (h.2.2.2.2.1 q1).2.1
    have q3 := of_decide_eq_false q3
    (refine sI ?_; try with_reducible exact True.intro)
    refine gd (fun q4 => ?_) (fun q4 => ?_)
    · (refine sI ?_; try with_reducible exact True.intro)
      (intros; try refine go_st ?_); refine go_c ?_; (refine sI ?_; try with_reducible exact True.intro)
      exact hb7 _ _ _ fun h => by have := (h.2.2.2.2.1 q1).2.2.1; rw [q4] at this; cases this
    (refine sI ?_; try with_reducible exact True.intro)
    refine gd (fun q5 => ?_) (fun q5 => ?_)
    · (refine sI ?_; try with_reducible exact True.intro)
      (intros; try refine go_st ?_); refine go_c ?_; (refine sI ?_; try with_reducible exact True.intro)
      exact hb7 _ _ _ fun h => by have := of_decide_eq_true q5; exact this (h.2.2.2.2.1 q1).2.2.2
    have q5 := of_decide_eq_false q5
    (refine sI ?_; try with_reducible exact True.intro)
    refine gd (fun q6 => ?_) (fun q6 => ?_)
    · exact absurd q1 (of_decide_eq_true q6)
    (refine sI ?_; try with_reducible exact True.intro)
    (intros; try refine go_st ?_); refine go_c ?_; (refine sI ?_; try with_reducible exact True.intro)
    (repeat first | refine go_skip ?_ | refine go_b ?_)
    refine hrest _ (fun _ => ⟨by omega, by omega, q4, by omega⟩) (by omega) ?_
    (refine sI ?_; try with_reducible exact True.intro)
  · have q1 := of_decide_eq_false q1
    (refine sI ?_; try with_reducible exact True.intro)
    refine gd (fun q6 => ?_) (fun q6 => ?_)
    · (refine sI ?_; try with_reducible exact True.intro)
      refine (rin_ok x.pid _ G _ _).mono ?_; rintro _ _ ⟨rfl, rfl⟩; (refine sI ?_; try with_reducible exact True.intro)
      (intros; try refine go_st ?_); refine go_c ?_; (refine sI ?_; try with_reducible exact True.intro)
      refine gb (fun q7 => ?_) (fun q7 => ?_)
      · refine hb7 _ _ _ fun h => rng_f q7 (rng_i ?_)
        have := h.2.2.2.1
        omega
      have q7 := rng_t q7
      (repeat first | refine go_skip ?_ | refine go_b ?_)
      refine hrest _ (fun h => absurd h q1) (by omega) ?_
      (refine sI ?_; try with_reducible exact True.intro)
    · exact absurd (of_decide_eq_false q6) (by simpa using q1)
end Go.Proofs.Ytfhheomeebejnaa

/- Bytes, part 5 of a proof: a sum's steps. No condition. -/
set_option linter.unusedSimpArgs false
set_option linter.unusedVariables false
namespace Go.Proofs.Ytfhheomeebejnaa
open Go Go.Kx

abbrev W32 := BitVec 32
def vW (v : W32) : Value := .int .u32 (v.toNat : Int)
def poly : W32 := 3988292384#32
def stp (v : W32) : W32 := (v >>> 1) ^^^ (if v.getLsbD 0 = true then poly else 0#32)
def stpN : Nat → W32 → W32
  | 0, v => v
  | n + 1, v => stp (stpN n v)
theorem stp_xor (a b : W32) : stp (a ^^^ b) = stp a ^^^ stp b := by
  unfold stp
  rw [BitVec.ushiftRight_xor_distrib, BitVec.getLsbD_xor]
  generalize a >>> 1 = x
  generalize b >>> 1 = y
  cases a.getLsbD 0 <;> cases b.getLsbD 0 <;> simp
  · rw [BitVec.xor_assoc]
  · rw [BitVec.xor_assoc, BitVec.xor_assoc, BitVec.xor_comm poly y]
  · rw [BitVec.xor_assoc, BitVec.xor_comm poly (y ^^^ poly), BitVec.xor_assoc, BitVec.xor_self, BitVec.xor_zero]
theorem stpN_xor (a b : W32) : ∀ n, stpN n (a ^^^ b) = stpN n a ^^^ stpN n b
  | 0 => rfl
  | n + 1 => by rw [stpN, stpN_xor a b n, stp_xor]; rfl
theorem stp_even {v : W32} (h : v.getLsbD 0 = false) : stp v = v >>> 1 := by rw [stp, if_neg (by rw [h]; simp), BitVec.xor_zero]
theorem stpN_low {v : W32} : ∀ n, (∀ i, i < n → v.getLsbD i = false) → stpN n v = v >>> n
  | 0, _ => by simp [stpN]
  | n + 1, h => by
    rw [stpN, stpN_low n fun i hi => h i (by omega), stp_even (by rw [BitVec.getLsbD_ushiftRight]; exact h _ (by omega))]
    rw [BitVec.shiftRight_add]
theorem stp_four (v : W32) : stpN 4 v = stpN 4 (v &&& 15#32) ^^^ (v >>> 4) := by
  have h1 : v = (v &&& 15#32) ^^^ (v &&& ~~~15#32) := by
    apply BitVec.eq_of_getLsbD_eq
    intro i hi
    simp only [BitVec.getLsbD_xor, BitVec.getLsbD_and, BitVec.getLsbD_not]
    cases v.getLsbD i <;> cases (15#32).getLsbD i <;> simp [hi]
  have h2 : stpN 4 (v &&& ~~~15#32) = v >>> 4 := by
    rw [stpN_low 4]
    · apply BitVec.eq_of_getLsbD_eq
      intro i hi
      simp only [BitVec.getLsbD_ushiftRight, BitVec.getLsbD_and, BitVec.getLsbD_not]
      by_cases h : 4 + i < 32
      · have : (15#32).getLsbD (4 + i) = false := by
          rw [BitVec.getLsbD_ofNat]
          have : Nat.testBit 15 (4 + i) = false := Nat.testBit_lt_two_pow (Nat.lt_of_lt_of_le (by decide : 15 < 2 ^ 4) (Nat.pow_le_pow_right (by decide) (by omega)))
          simp [this]
        rw [this]
        simp only [h, decide_true, Bool.not_false, Bool.and_true]
      · rw [BitVec.getLsbD_of_ge v (4 + i) (by omega)]
        simp
    · intro i hi
      have : (15#32).getLsbD i = true := by
        match i, hi with
        | 0, _ => rfl
        | 1, _ => rfl
        | 2, _ => rfl
        | 3, _ => rfl
      rw [BitVec.getLsbD_and, BitVec.getLsbD_not, this]
      simp
  conv => lhs; rw [h1, stpN_xor, h2]
theorem stpN_add (v : W32) : ∀ m n, stpN (m + n) v = stpN m (stpN n v)
  | 0, n => by rw [Nat.zero_add]; rfl
  | m + 1, n => by rw [Nat.succ_add, stpN, stpN_add v m n]; rfl
def ofB (b : UInt8) : W32 := BitVec.ofNat 32 b.toNat
/-- One byte. -/
def upd (v : W32) (c : UInt8) : W32 := stpN 8 (v ^^^ ofB c)
def half4 (v : W32) : W32 := stpN 4 (v &&& 15#32) ^^^ (v >>> 4)
theorem upd_eq (v : W32) (c : UInt8) : upd v c = half4 (half4 (v ^^^ ofB c)) := by
  rw [half4, ← stp_four, half4, ← stp_four, ← stpN_add]
  rfl
/-- A sum. -/
def crcB (l : List UInt8) : W32 := ~~~ (l.foldl upd 4294967295#32)
/-! The operations. -/
theorem ofW (a : W32) : BitVec.ofInt 32 (a.toNat : Int) = a := by
  rw [BitVec.ofInt_natCast, BitVec.ofNat_toNat]
  simp
theorem wrapW (a : W32) : IntKind.u32.wrap (a.toNat : Int) = (a.toNat : Int) := by
  have := a.isLt
  simp only [IntKind.wrap, IntKind.bits, IntKind.signed]
  simp
  omega
theorem bin_xorW (a b : W32) : binV .xor (vW a) (vW b) = some (vW (a ^^^ b)) := by
  simp only [binV, vW]
  rw [if_pos trivial]
  have : (BitVec.ofInt IntKind.u32.bits (a.toNat : Int) ^^^ BitVec.ofInt IntKind.u32.bits (b.toNat : Int)).toNat = (a ^^^ b).toNat := by
    show (BitVec.ofInt 32 (a.toNat : Int) ^^^ BitVec.ofInt 32 (b.toNat : Int)).toNat = _
    rw [ofW, ofW]
  rw [this, wrapW]
theorem bin_andW (a b : W32) : binV .and (vW a) (vW b) = some (vW (a &&& b)) := by
  simp only [binV, vW]
  rw [if_pos trivial]
  have : (BitVec.ofInt IntKind.u32.bits (a.toNat : Int) &&& BitVec.ofInt IntKind.u32.bits (b.toNat : Int)).toNat = (a &&& b).toNat := by
    show (BitVec.ofInt 32 (a.toNat : Int) &&& BitVec.ofInt 32 (b.toNat : Int)).toNat = _
    rw [ofW, ofW]
  rw [this, wrapW]
theorem bin_shrW (a : W32) (k : Nat) (hk : k ≤ 32) : binV .shr (vW a) (.int .u64 (k : Int)) = some (vW (a >>> k)) := by
  simp only [binV, vW]
  rw [if_pos (by omega)]
  congr 2
  have h1 : min ((k : Int)).toNat IntKind.u32.bits = k := by simp [IntKind.bits]; omega
  rw [h1, BitVec.toNat_ushiftRight, Nat.shiftRight_eq_div_pow]
  rw [Int.fdiv_eq_ediv_of_nonneg _ (by exact_mod_cast Nat.zero_le _)]
  exact_mod_cast rfl
theorem u8_32 (c : UInt8) : Value.int .u32 (IntKind.u32.wrap (c.toNat : Int)) = vW (ofB c) := by
  have h := c.toNat_lt
  have h2 : (ofB c).toNat = c.toNat := by simp [ofB]
  have := wrapW (ofB c)
  rw [h2] at this
  rw [vW, h2, this]
theorem F102 : Fun Try.prog 102 14 v102 c102 o102 := Fun.mk' Try.func102 Try.ntmps102 (by kernel_rfl) (by kernel_rfl) s102 q102
theorem F101 : Fun Try.prog 101 11 v101 c101 o101 := Fun.mk' Try.func101 Try.ntmps101 (by kernel_rfl) (by kernel_rfl) s101 q101
theorem F90 : Fun Try.prog 90 14 v90 c90 o90 := Fun.mk' Try.func90 Try.ntmps90 (by kernel_rfl) (by kernel_rfl) s90 q90
theorem bit0 (v : W32) : v.getLsbD 0 = true ↔ v.toNat % 2 = 1 := by
  rw [BitVec.getLsbD, Nat.testBit_zero]
  simp
theorem bin_quoW2 (v : W32) : binV .quo (vW v) (.int .u32 2) = some (vW (v >>> 1)) := by
  have h := v.isLt
  refine (bin_quo .u32 v.toNat 2 (by decide) (by simp [IntKind.max, IntKind.signed, IntKind.bits]; omega) rfl).trans ?_
  rw [vW, BitVec.toNat_ushiftRight, Nat.shiftRight_eq_div_pow]
theorem bin_remW2 (v : W32) : binV .rem (vW v) (.int .u32 2) = some (.int .u32 ((v.toNat % 2 : Nat) : Int)) := bin_rem .u32 v.toNat 2 (by decide)
theorem bin_xorP (v : W32) : binV .xor (vW v) (.int .u32 3988292384) = some (vW (v ^^^ poly)) := bin_xorW v poly
theorem bin_eql1 (n : Nat) : binV .eql (.int .u32 (n : Int)) (.int .u32 1) = some (.bool (decide (n = 1))) := by
  simp only [binV]
  rw [if_pos trivial]
  congr 2
  simp
  omega
theorem step_ok (v : W32) (G : Nat → Option Obj) : FnS Try.prog 101 #[vW v] G (vW (stp v)) := by
  refine F101.fnS (by simp) (go_of ?_)
  unfold c101
  (intros; try refine go_st ?_); refine go_r 0 0 (by decide) ?_; (refine sJ c101r0.eq_1 ?_; try with_reducible exact True.intro)
  have hr := bin_remW2 v
  generalize hn : v.toNat % 2 = n at hr
  (intros; try refine go_st ?_); refine go_r 3 5 (by decide) ?_; (refine sJ3 c101r1.eq_1 @hr @bin_eql1 ?_; try with_reducible exact True.intro)
  (intros; try refine go_st ?_); refine go_c ?_; (refine sI ?_; try with_reducible exact True.intro)
  refine gb (fun h1 => ?_) (fun h1 => ?_)
  · (intros; try refine go_st ?_); refine go_r 6 9 (by decide) ?_; (refine sJ3 c101r2.eq_1 @bin_quoW2 @bin_xorP ?_; try with_reducible exact True.intro)
    (intros; try refine go_st ?_)
    refine go_ret (retQ_v rfl ?_); simp only [push_cast, Nat.reduceBEq]
    rw [stp, if_pos ((bit0 v).2 (by rw [hn]; simpa using h1))]
  · (repeat first | refine go_skip ?_ | refine go_b ?_)
    (intros; try refine go_st ?_); refine go_r 9 11 (by decide) ?_; (refine sJ2 c101r3.eq_1 @bin_quoW2 ?_; try with_reducible exact True.intro)
    (intros; try refine go_st ?_)
    refine go_ret (retQ_v rfl ?_); simp only [push_cast, Nat.reduceBEq]
    rw [stp, if_neg (fun h => by have := (bit0 v).1 h; rw [hn] at this; simp [this] at h1), BitVec.xor_zero]
theorem steps_ok (v : W32) (n : Nat) (hn : n ≤ 1000) (G : Nat → Option Obj) : FnS Try.prog 90 #[vW v, .int .i64 (n : Int)] G (vW (stpN n v)) := by
  refine F90.fnS (by simp) (go_of ?_)
  unfold c90
  (intros; try refine go_st ?_); refine go_r 0 0 (by decide) ?_; (refine sJ c90r0.eq_1 ?_; try with_reducible exact True.intro)
  (intros; try refine go_st ?_); refine go_r 0 0 (by decide) ?_; (refine sJ c90r1.eq_1 ?_; try with_reducible exact True.intro)
  (intros; try refine go_st ?_)
  refine go_loop (fun e h => ∃ k : Nat, k ≤ n ∧ e 5 = .int .i64 k ∧ e 1 = .int .i64 n ∧ e 0 = vW (stpN k v) ∧ h = ⟨G, [], []⟩) (fun e h => n - iv (e 5)) ?_ ?_
  · exact ⟨0, Nat.zero_le _, eE, eE, by (refine sI ?_; try with_reducible exact True.intro); rfl, rfl⟩
  · rintro e h ⟨k, hk, e5, e1, e0, rfl⟩
    refine go_keep [0, 1, 5] ?_
    (refine sJ3 @e0 @e1 @e5 ?_; try with_reducible exact True.intro)
    (intros; try refine go_st ?_); refine go_r 6 8 (by decide) ?_; (refine sJ c90r2.eq_1 ?_; try with_reducible exact True.intro)
    (intros; try refine go_st ?_); refine go_c ?_; (refine sI ?_; try with_reducible exact True.intro)
    refine gb (fun h1 => ?_) (fun h1 => ?_)
    · have hkn : k < n := by simpa using h1
      have hw3 := inc_i k n (by omega) (by unfold maxLen; omega)
      (intros; try refine go_st ?_); refine go_r 11 13 (by decide) ?_; (refine sJ c90r3.eq_1 ?_; try with_reducible exact True.intro)
      refine (step_ok (stpN k v) G _ _).mono ?_; rintro _ _ ⟨rfl, rfl⟩; (refine sI ?_; try with_reducible exact True.intro)
      (intros; try refine go_st ?_); refine go_r 9 11 (by decide) ?_; (refine sJ2 c90r4.eq_1 @hw3 ?_; try with_reducible exact True.intro)
      (intros; try refine go_st ?_)
      refine go_l ⟨⟨k + 1, by omega, eE, eE, by (refine sI ?_; try with_reducible exact True.intro); rfl, rfl⟩, ?_⟩
      (refine sI ?_; try with_reducible exact True.intro)
      omega
    · have hkn : k = n := by simp at h1; omega
      subst hkn
      refine go_exit ?_
      (refine sI ?_; try with_reducible exact True.intro)
      (intros; try refine go_st ?_); refine go_r 13 14 (by decide) ?_; (refine sJ c90r5.eq_1 ?_; try with_reducible exact True.intro)
      (intros; try refine go_st ?_)
      refine go_ret (retQ_v rfl ?_); simp only [push_cast, Nat.reduceBEq]
end Go.Proofs.Ytfhheomeebejnaa

/- Bytes, part 6 of a proof: sums. No condition. -/
set_option linter.unusedSimpArgs false
set_option linter.unusedVariables false
namespace Go.Proofs.Ytfhheomeebejnaa
open Go Go.Kx
theorem F93 : Fun Try.prog 93 13 v93 c93 o93 := Fun.mk' Try.func93 Try.ntmps93 (by kernel_rfl) (by kernel_rfl) s93 q93
theorem F103 : Fun Try.prog 103 24 v103 c103 o103 := Fun.mk' Try.func103 Try.ntmps103 (by kernel_rfl) (by kernel_rfl) s103 q103
theorem F81 : Fun Try.prog 81 21 v81 c81 o81 := Fun.mk' Try.func81 Try.ntmps81 (by kernel_rfl) (by kernel_rfl) s81 q81
theorem F74 : Fun Try.prog 74 21 v74 c74 o74 := Fun.mk' Try.func74 Try.ntmps74 (by kernel_rfl) (by kernel_rfl) s74 q74

theorem bin_and1 (v : W32) : binV .and (vW v) (.int .u32 1) = some (vW (v &&& 1#32)) := bin_andW v 1#32
theorem bin_and15 (v : W32) : binV .and (vW v) (.int .u32 15) = some (vW (v &&& 15#32)) := bin_andW v 15#32
theorem bin_Pand (v : W32) : binV .and (.int .u32 3988292384) (vW v) = some (vW (poly &&& v)) := bin_andW poly v
theorem bin_shr1 (v : W32) : binV .shr (vW v) (.int .u64 1) = some (vW (v >>> 1)) := bin_shrW v 1 (by omega)
theorem bin_shr4 (v : W32) : binV .shr (vW v) (.int .u64 4) = some (vW (v >>> 4)) := bin_shrW v 4 (by omega)
theorem un_negW (v : W32) : unV .neg (vW v) = some (vW (-v)) := by
  have := v.isLt
  simp only [unV, vW]
  congr 2
  rw [BitVec.toNat_neg]
  simp only [IntKind.wrap, IntKind.bits, IntKind.signed]
  simp
  omega
theorem un_notW (v : W32) : unV .xor (vW v) = some (vW (~~~v)) := by
  simp only [unV, vW]
  have : (BitVec.ofInt IntKind.u32.bits (if IntKind.u32.signed = true then -1 else IntKind.u32.max) ^^^ BitVec.ofInt IntKind.u32.bits (v.toNat : Int)).toNat = (~~~v).toNat := by
    show (BitVec.ofInt 32 4294967295 ^^^ BitVec.ofInt 32 (v.toNat : Int)).toNat = _
    have h1 : BitVec.ofInt 32 4294967295 = BitVec.allOnes 32 := by decide
    rw [ofW, h1, BitVec.allOnes_xor]
  rw [this, wrapW]
theorem bin_notW (v : W32) : binV .xor (vW v) (.int .u32 4294967295) = some (vW (~~~v)) := by
  have h := bin_xorW v 4294967295#32
  have h1 : (4294967295#32 : W32) = BitVec.allOnes 32 := by decide
  rw [h1, BitVec.xor_allOnes] at h
  exact h
theorem stp_and (v : W32) : (v >>> 1) ^^^ (poly &&& -(v &&& 1#32)) = stp v := by
  have h1 : v &&& 1#32 = if v.getLsbD 0 = true then 1#32 else 0#32 := by
    apply BitVec.eq_of_toNat_eq
    rw [BitVec.toNat_and]
    have : (1#32).toNat = 1 := rfl
    rw [this, Nat.and_one_is_mod]
    by_cases h : v.getLsbD 0 = true
    · rw [if_pos h, (bit0 v).1 h]; rfl
    · rw [if_neg h]
      have h3 : ¬ v.toNat % 2 = 1 := fun h9 => h ((bit0 v).2 h9)
      have h2 : v.toNat % 2 = 0 := by omega
      rw [h2]
      rfl
  rw [h1, stp]
  by_cases h : v.getLsbD 0 = true
  · rw [if_pos h, if_pos h]
    have : poly &&& -1#32 = poly := by decide
    rw [this]
  · rw [if_neg h, if_neg h]
    have : poly &&& -0#32 = 0#32 := by decide
    rw [this]
theorem half_ok (v : W32) (G : Nat → Option Obj) : FnS Try.prog 102 #[vW v] G (vW (stpN 4 v)) := by
  refine F102.fnS (by simp) (go_of ?_)
  unfold c102
  (intros; try refine go_st ?_); refine go_r 0 0 (by decide) ?_; (refine sJ c102r0.eq_1 ?_; try with_reducible exact True.intro)
  (intros; try refine go_st ?_); refine go_r 0 0 (by decide) ?_; (refine sJ c102r1.eq_1 ?_; try with_reducible exact True.intro)
  (intros; try refine go_st ?_)
  refine go_loop (fun e h => ∃ k : Nat, k ≤ 4 ∧ e 3 = .int .i64 k ∧ e 0 = vW (stpN k v) ∧ h = ⟨G, [], []⟩) (fun e h => 4 - iv (e 3)) ?_ ?_
  · exact ⟨0, Nat.zero_le _, eE, by (refine sI ?_; try with_reducible exact True.intro); rfl, rfl⟩
  · rintro e h ⟨k, hk, e3, e0, rfl⟩
    refine go_keep [0, 3] ?_
    (refine sJ2 @e0 @e3 ?_; try with_reducible exact True.intro)
    (intros; try refine go_st ?_); refine go_r 0 0 (by decide) ?_; (refine sJ c102r2.eq_1 ?_; try with_reducible exact True.intro)
    (intros; try refine go_st ?_); refine go_c ?_; (refine sI ?_; try with_reducible exact True.intro)
    refine gb (fun h1 => ?_) (fun h1 => ?_)
    · have hkn : k < 4 := by simp at h1; omega
      have hw3 := inc_i k 4 (by omega) (by unfold maxLen; omega)
      (intros; try refine go_st ?_); refine go_r 5 12 (by decide) ?_; (refine sJ7 c102r3.eq_1 @bin_shr1 @bin_and1 @un_negW @bin_Pand @bin_xorW @stp_and ?_; try with_reducible exact True.intro)
      (intros; try refine go_st ?_); refine go_r 12 13 (by decide) ?_; (refine sJ2 c102r4.eq_1 @hw3 ?_; try with_reducible exact True.intro)
      (intros; try refine go_st ?_)
      refine go_l ⟨⟨k + 1, by omega, eE, by (refine sI ?_; try with_reducible exact True.intro); rfl, rfl⟩, ?_⟩
      (refine sI ?_; try with_reducible exact True.intro)
      omega
    · have hkn : k = 4 := by simp at h1; omega
      subst hkn
      refine go_exit ?_
      (refine sI ?_; try with_reducible exact True.intro)
      (intros; try refine go_st ?_); refine go_r 13 14 (by decide) ?_; (refine sJ c102r5.eq_1 ?_; try with_reducible exact True.intro)
      (intros; try refine go_st ?_)
      refine go_ret (retQ_v rfl ?_); simp only [push_cast, Nat.reduceBEq]
/-- The table. -/
def TabAt (G : Nat → Option Obj) (v : Value) : Prop := ∃ b, v = .pointer (some ⟨b, 0, none⟩) ∧ ∀ i : Nat, i < 16 → cellG G ⟨b, i, none⟩ = some (vW (stpN 4 (BitVec.ofNat 32 i)))
theorem TabAt.le {G G' : Nat → Option Obj} {v : Value} (h : TabAt G v) (hg : Gle G G') : TabAt G' v := by
  obtain ⟨b, h1, h2⟩ := h
  exact ⟨b, h1, fun i hi => cellG_le hg (h2 i hi)⟩
theorem and15 (v : W32) : (v &&& 15#32).toNat < 16 ∧ BitVec.ofNat 32 (v &&& 15#32).toNat = v &&& 15#32 := by
  refine ⟨?_, by simp⟩
  rw [BitVec.toNat_and]
  exact Nat.lt_of_le_of_lt Nat.and_le_right (by decide)
theorem ix_W {b n : Nat} {v : W32} (h : v.toNat < n) : ixPV n 1 (.pointer (some ⟨b, 0, none⟩)) (vW v) = some (.pointer (some ⟨b, v.toNat, none⟩)) := by
  simp only [ixPV, vW]
  rw [if_pos ⟨by omega, by omega⟩]
  simp [add_off]
theorem add_ok (v : W32) (c : UInt8) (p : Value) (G : Nat → Option Obj) (hp : TabAt G p) : FnS Try.prog 103 #[vW v, .int .u8 (c.toNat : Int), p] G (vW (upd v c)) := by
  obtain ⟨b, rfl, ht⟩ := hp
  refine F103.fnS (by simp) (go_of ?_)
  unfold c103
  (intros; try refine go_st ?_); refine go_r 0 0 (by decide) ?_; (refine sJ c103r0.eq_1 ?_; try with_reducible exact True.intro)
  (intros; try refine go_st ?_); refine go_r 6 10 (by decide) ?_; (refine sJ3 c103r1.eq_1 @u8_32 @bin_xorW ?_; try with_reducible exact True.intro)
  rw [upd_eq]
  generalize v ^^^ ofB c = x
  obtain ⟨g1, g2⟩ := and15 x
  (intros; try refine go_st ?_); refine go_r 10 17 (by decide) ?_; (try simp -implicitDefEqProofs only [kR_e, kQ_e, push_cast, Nat.reduceBEq, Nat.reduceAdd, Nat.reduceSub, Nat.reduceMul, Nat.reduceLT, Nat.reduceLeDiff, Nat.reduceEqDiff, reduceIte, Bool.not_true, Bool.not_false, true_and, and_true, Option.map_some, Option.bind_some, Int.toNat_natCast, c103r2, bin_and15, ix_W g1])
  refine ⟨_, ⟨_, rfl, .g (ht _ g1)⟩, ?_⟩
  rw [g2]
  (refine sJ2 @bin_shr4 @bin_xorW ?_; try with_reducible exact True.intro)
  rw [← half4]
  generalize half4 x = y
  obtain ⟨k1, k2⟩ := and15 y
  (intros; try refine go_st ?_); refine go_r 17 24 (by decide) ?_; (try simp -implicitDefEqProofs only [kR_e, kQ_e, push_cast, Nat.reduceBEq, Nat.reduceAdd, Nat.reduceSub, Nat.reduceMul, Nat.reduceLT, Nat.reduceLeDiff, Nat.reduceEqDiff, reduceIte, Bool.not_true, Bool.not_false, true_and, and_true, Option.map_some, Option.bind_some, Int.toNat_natCast, c103r3, bin_and15, ix_W k1])
  refine ⟨_, ⟨_, rfl, .g (ht _ k1)⟩, ?_⟩
  rw [k2]
  (refine sJ2 @bin_shr4 @bin_xorW ?_; try with_reducible exact True.intro)
  (intros; try refine go_st ?_)
  refine go_ret (retQ_v rfl ?_); simp only [push_cast, Nat.reduceBEq]
  rfl
theorem splice1 {cs : List Value} {o : Nat} (x : Value) (h : o < cs.length) : splice cs o [x] = cs.set o x := by
  rw [splice, List.set_eq_take_append_cons_drop, if_pos h]
  simp
theorem adder_ok (G : Nat → Option Obj) : FnD Try.prog 93 #[] G (fun G' r => ∃ p, r = .func (.func 103) #[] #[p] ∧ TabAt G' p) := by
  refine F93.fnD (by simp) (go_of ?_)
  unfold c93
  (intros; try refine go_st ?_); refine go_r 0 0 (by decide) ?_; (refine sJ c93r0.eq_1 ?_; try with_reducible exact True.intro)
  (intros; try refine go_st ?_); refine go_r 0 0 (by decide) ?_; (refine sJ c93r1.eq_1 ?_; try with_reducible exact True.intro)
  intro b hb
  (refine sI ?_; try with_reducible exact True.intro)
  (intros; try refine go_st ?_); refine go_r 0 0 (by decide) ?_; (refine sJ c93r2.eq_1 ?_; try with_reducible exact True.intro)
  (intros; try refine go_st ?_)
  refine go_loop (fun e h => ∃ (k : Nat) (cs : List Value), (k ≤ 16 ∧ cs.length = 16 ∧ ∀ i, i < k → cs[i]? = some (vW (stpN 4 (BitVec.ofNat 32 i)))) ∧ e 3 = .int .i64 k ∧ e 1 = .pointer (some ⟨b, 0, none⟩) ∧ h = ⟨G, [.blk b cs], []⟩) (fun e h => 16 - iv (e 3)) ?_ ?_
  · exact ⟨0, _, ⟨Nat.zero_le _, rfl, fun i hi => by omega⟩, eE, eE, rfl⟩
  · rintro e h ⟨k, cs, ⟨hk, hl, ht⟩, e3, e1, rfl⟩
    refine go_keep [1, 3] ?_
    (refine sJ2 @e1 @e3 ?_; try with_reducible exact True.intro)
    (intros; try refine go_st ?_); refine go_r 0 0 (by decide) ?_; (refine sJ c93r3.eq_1 ?_; try with_reducible exact True.intro)
    (intros; try refine go_st ?_); refine go_c ?_; (refine sI ?_; try with_reducible exact True.intro)
    refine gb (fun h1 => ?_) (fun h1 => ?_)
    · have hkn : k < 16 := by simp at h1; omega
      have hw3 := inc_i k 16 (by omega) (by unfold maxLen; omega)
      have hkw : Value.int .u32 (IntKind.u32.wrap (k : Int)) = vW (BitVec.ofNat 32 k) := by
        have h2 : (BitVec.ofNat 32 k).toNat = k := by simp; omega
        have := wrapW (BitVec.ofNat 32 k)
        rw [h2] at this
        rw [vW, h2, this]
      (intros; try refine go_st ?_); refine go_r 5 6 (by decide) ?_; (refine sJ c93r4.eq_1 ?_; try with_reducible exact True.intro)
      (intros; try refine go_st ?_); refine go_r 6 11 (by decide) ?_; (refine sJ2 c93r5.eq_1 @hkw ?_; try with_reducible exact True.intro)
      refine (half_ok (BitVec.ofNat 32 k) G _ _).mono ?_; rintro _ _ ⟨rfl, rfl⟩; (refine sI ?_; try with_reducible exact True.intro)
      refine ⟨by omega, ?_⟩
      refine stX_blk (xs := [vW (stpN 4 (BitVec.ofNat 32 k))]) [] [] rfl (by simp; omega) ⟨rfl, rfl⟩ ?_
      rw [splice1 _ (by omega), show 0 + k * 1 = k by omega]
      (refine sI ?_; try with_reducible exact True.intro)
      (intros; try refine go_st ?_); refine go_r 11 12 (by decide) ?_; (refine sJ2 c93r6.eq_1 @hw3 ?_; try with_reducible exact True.intro)
      (intros; try refine go_st ?_)
      refine go_l ⟨⟨k + 1, _, ⟨by omega, by simp [hl], fun i hi => ?_⟩, eE, eE, rfl⟩, ?_⟩
      · rw [List.getElem?_set]
        by_cases hik : k = i
        · rw [if_pos hik, if_pos (by omega), ← hik]
        · rw [if_neg hik]; exact ht i (by omega)
      · (refine sI ?_; try with_reducible exact True.intro)
        omega
    · have hkn : k = 16 := by simp at h1; omega
      subst hkn
      refine go_exit ?_
      (refine sI ?_; try with_reducible exact True.intro)
      (intros; try refine go_st ?_); refine go_r 12 13 (by decide) ?_; (refine sJ c93r7.eq_1 ?_; try with_reducible exact True.intro)
      (intros; try refine go_st ?_)
      refine go_gx (gx_blk_at [] []) ?_
      rintro h' ⟨G2, rfl, hg2, hc⟩
      refine go_ret (retQ_v rfl ?_); simp only [push_cast, Nat.reduceBEq]
      exact ⟨_, rfl, b, rfl, fun i hi => by simpa [add_off] using hc i _ (ht i hi)⟩
theorem fold_succ {l : List UInt8} {k : Nat} {x : UInt8} (hx : l[k]? = some x) (v : W32) : (l.take (k + 1)).foldl upd v = upd ((l.take k).foldl upd v) x := by
  have hk := List.getElem?_eq_some_iff.1 hx
  rw [List.take_succ_eq_append_getElem hk.1, hk.2]
  simp
theorem Sum_ok (l : List UInt8) (v : Value) (G : Nat → Option Obj) (hl : SB G v l) : FnD Try.prog 81 #[v] G (fun _ r => r = vW (crcB l)) := by
  refine F81.fnD (by simp) (go_of ?_)
  obtain ⟨A, c, rfl, hc, hm, hA⟩ := hl
  unfold c81
  (intros; try refine go_st ?_); refine go_r 0 0 (by decide) ?_; (refine sJ c81r0.eq_1 ?_; try with_reducible exact True.intro)
  (intros; try refine go_st ?_); refine go_r 7 8 (by decide) ?_; (refine sJ c81r1.eq_1 ?_; try with_reducible exact True.intro)
  refine (adder_ok G _ []).mono ?_
  rintro r h' ⟨G1, rfl, hg1, p, rfl, hp⟩
  (refine sI ?_; try with_reducible exact True.intro)
  have hA1 := hA.le hg1 (E' := UE) fun _ _ h => h
  (intros; try refine go_st ?_); refine go_r 0 0 (by decide) ?_; (refine sJ c81r2.eq_1 ?_; try with_reducible exact True.intro)
  (intros; try refine go_st ?_); refine go_r 0 0 (by decide) ?_; (refine sJ c81r3.eq_1 ?_; try with_reducible exact True.intro)
  (intros; try refine go_st ?_)
  refine go_loop (fun e h => ∃ k : Nat, k ≤ l.length ∧ e 10 = .int .i64 k ∧ e 9 = .int .i64 l.length ∧ e 8 = .slice A l.length c ∧ e 3 = .func (.func 103) #[] #[p] ∧ e 4 = vW ((l.take k).foldl upd 4294967295#32) ∧ h = ⟨G1, [], []⟩) (fun e h => l.length - iv (e 10)) ?_ ?_
  · exact ⟨0, Nat.zero_le _, eE, eE, eE, eE, by (refine sI ?_; try with_reducible exact True.intro); rfl, rfl⟩
  · rintro e h ⟨k, hk, e10, e9, e8, e3, e4, rfl⟩
    refine go_keep [3, 4, 8, 9, 10] ?_
    (refine sJ5 @e3 @e4 @e8 @e9 @e10 ?_; try with_reducible exact True.intro)
    (intros; try refine go_st ?_); refine go_r 0 0 (by decide) ?_; (refine sJ c81r4.eq_1 ?_; try with_reducible exact True.intro)
    (intros; try refine go_st ?_); refine go_c ?_; (refine sI ?_; try with_reducible exact True.intro)
    refine gb (fun h1 => ?_) (fun h1 => ?_)
    · have hkn : k < l.length := by simpa using h1
      have hw3 := inc_i k c (by omega) hm
      obtain ⟨x, hx⟩ : ∃ x, l[k]? = some x := ⟨l[k], List.getElem?_eq_getElem (by omega)⟩
      (intros; try refine go_st ?_); refine go_r 12 14 (by decide) ?_; (refine sJ c81r5.eq_1 ?_; try with_reducible exact True.intro)
      refine hA1.x_l1 hx rfl rfl ?_
      rintro a1 ha1 u1 hu
      cases hu
      (refine sI ?_; try with_reducible exact True.intro)
      (intros; try refine go_st ?_); refine go_r 14 18 (by decide) ?_; (refine sJ c81r6.eq_1 ?_; try with_reducible exact True.intro)
      refine .inl ⟨_, _, rfl, (add_ok _ x p G1 hp _ _).mono ?_⟩
      rintro _ _ ⟨rfl, rfl⟩
      (refine sI ?_; try with_reducible exact True.intro)
      (intros; try refine go_st ?_); refine go_r 18 19 (by decide) ?_; (refine sJ2 c81r7.eq_1 @hw3 ?_; try with_reducible exact True.intro)
      (intros; try refine go_st ?_)
      refine go_l ⟨⟨k + 1, by omega, eE, eE, eE, eE, by rw [fold_succ hx]; (refine sI ?_; try with_reducible exact True.intro), rfl⟩, ?_⟩
      (refine sI ?_; try with_reducible exact True.intro)
      omega
    · have hkn : k = l.length := by simp at h1; omega
      subst hkn
      refine go_exit ?_
      (refine sI ?_; try with_reducible exact True.intro)
      (intros; try refine go_st ?_); refine go_r 19 21 (by decide) ?_; (refine sJ2 c81r8.eq_1 @un_notW ?_; try with_reducible exact True.intro)
      (intros; try refine go_st ?_)
      refine go_ret (retQ_v rfl ?_); simp only [push_cast, Nat.reduceBEq]
      rw [List.take_length]
      rfl
theorem RSum_ok (l : List UInt8) (v : Value) (G : Nat → Option Obj) (hl : SB G v l) : FnS Try.prog 74 #[v] G (vW (crcB l)) := by
  refine F74.fnS (by simp) (go_of ?_)
  obtain ⟨A, c, rfl, hc, hm, hA⟩ := hl
  unfold c74
  (intros; try refine go_st ?_); refine go_r 0 0 (by decide) ?_; (refine sJ c74r0.eq_1 ?_; try with_reducible exact True.intro)
  (intros; try refine go_st ?_); refine go_r 0 0 (by decide) ?_; (refine sJ c74r1.eq_1 ?_; try with_reducible exact True.intro)
  (intros; try refine go_st ?_); refine go_r 0 0 (by decide) ?_; (refine sJ c74r2.eq_1 ?_; try with_reducible exact True.intro)
  (intros; try refine go_st ?_)
  refine go_loop (fun e h => ∃ k : Nat, k ≤ l.length ∧ e 4 = .int .i64 k ∧ e 0 = .slice A l.length c ∧ e 3 = vW ((l.take k).foldl upd 4294967295#32) ∧ h = ⟨G, [], []⟩) (fun e h => l.length - iv (e 4)) ?_ ?_
  · exact ⟨0, Nat.zero_le _, eE, eE, by (refine sI ?_; try with_reducible exact True.intro); rfl, rfl⟩
  · rintro e h ⟨k, hk, e4, e0, e3, rfl⟩
    refine go_keep [0, 3, 4] ?_
    (refine sJ3 @e0 @e3 @e4 ?_; try with_reducible exact True.intro)
    (intros; try refine go_st ?_); refine go_r 5 8 (by decide) ?_; (refine sJ c74r3.eq_1 ?_; try with_reducible exact True.intro)
    (intros; try refine go_st ?_); refine go_c ?_; (refine sI ?_; try with_reducible exact True.intro)
    refine gb (fun h1 => ?_) (fun h1 => ?_)
    · have hkn : k < l.length := by simpa using h1
      have hw3 := inc_i k c (by omega) hm
      obtain ⟨x, hx⟩ : ∃ x, l[k]? = some x := ⟨l[k], List.getElem?_eq_getElem (by omega)⟩
      (intros; try refine go_st ?_); refine go_r 11 19 (by decide) ?_; (refine sJ c74r4.eq_1 ?_; try with_reducible exact True.intro)
      refine hA.x_l1 hx rfl rfl ?_
      rintro a1 ha1 u1 hu
      cases hu
      (refine sJ2 @u8_32 @bin_xorW ?_; try with_reducible exact True.intro)
      refine (steps_ok _ 8 (by omega) G _ _).mono ?_; rintro _ _ ⟨rfl, rfl⟩; (refine sI ?_; try with_reducible exact True.intro)
      (intros; try refine go_st ?_); refine go_r 9 11 (by decide) ?_; (refine sJ2 c74r5.eq_1 @hw3 ?_; try with_reducible exact True.intro)
      (intros; try refine go_st ?_)
      refine go_l ⟨⟨k + 1, by omega, eE, eE, by rw [fold_succ hx]; (refine sI ?_; try with_reducible exact True.intro); rfl, rfl⟩, ?_⟩
      (refine sI ?_; try with_reducible exact True.intro)
      omega
    · have hkn : k = l.length := by simp at h1; omega
      subst hkn
      refine go_exit ?_
      (refine sI ?_; try with_reducible exact True.intro)
      (intros; try refine go_st ?_); refine go_r 19 21 (by decide) ?_; (refine sJ2 c74r6.eq_1 @bin_notW ?_; try with_reducible exact True.intro)
      (intros; try refine go_st ?_)
      refine go_ret (retQ_v rfl ?_); simp only [push_cast, Nat.reduceBEq]
      rw [List.take_length]
      rfl
end Go.Proofs.Ytfhheomeebejnaa

/- Bytes, part 7 of a proof: numbers of so many bytes, and seals. No condition. -/
set_option linter.unusedSimpArgs false
set_option linter.unusedVariables false
namespace Go.Proofs.Ytfhheomeebejnaa
open Go Go.Kx
theorem F64 : Fun Try.prog 64 33 v64 c64 o64 := Fun.mk' Try.func64 Try.ntmps64 (by kernel_rfl) (by kernel_rfl) s64 q64
theorem F69 : Fun Try.prog 69 41 v69 c69 o69 := Fun.mk' Try.func69 Try.ntmps69 (by kernel_rfl) (by kernel_rfl) s69 q69
theorem F73 : Fun Try.prog 73 15 v73 c73 o73 := Fun.mk' Try.func73 Try.ntmps73 (by kernel_rfl) (by kernel_rfl) s73 q73
theorem F63 : Fun Try.prog 63 9 v63 c63 o63 := Fun.mk' Try.func63 Try.ntmps63 (by kernel_rfl) (by kernel_rfl) s63 q63
theorem F68 : Fun Try.prog 68 10 v68 c68 o68 := Fun.mk' Try.func68 Try.ntmps68 (by kernel_rfl) (by kernel_rfl) s68 q68

/-- A number of so many bytes. -/
def putN (n k : Nat) : List UInt8 := (List.range k).map fun i => UInt8.ofNat (n / 256 ^ (k - 1 - i))
theorem putN_len (n k : Nat) : (putN n k).length = k := by simp [putN]
theorem putN_take {n k i : Nat} (h : i < k) : (putN n k).take (i + 1) = (putN n k).take i ++ [UInt8.ofNat (n / 256 ^ (k - 1 - i))] := by
  have hl : i < (putN n k).length := by rw [putN_len]; exact h
  rw [List.take_succ_eq_append_getElem hl]
  congr 2
  simp [putN]
def sealB (l : List UInt8) : List UInt8 := l ++ putN (crcB l).toNat 4
theorem bin_shrN (n s : Nat) (hs : s ≤ 64) : binV .shr (.int .u64 (n : Int)) (.int .i64 (s : Int)) = some (.int .u64 ((n / 2 ^ s : Nat) : Int)) := by
  simp only [binV]
  rw [if_pos (by omega)]
  congr 2
  have h1 : min ((s : Int)).toNat IntKind.u64.bits = s := by simp [IntKind.bits]; omega
  rw [h1, Int.fdiv_eq_ediv_of_nonneg _ (by exact_mod_cast Nat.zero_le _)]
  exact_mod_cast rfl
theorem OPut_ok (l : List UInt8) (n k : Nat) (hn : n < 18446744073709551616) (hk : 1 ≤ k ∧ k ≤ 8) (v : Value) (G : Nat → Option Obj) (hl : SB G v l) (hb : l.length ≤ 100000) :
    FnO Try.prog 64 #[v, .int .u64 (n : Int), .int .i64 (k : Int)] G [] (fun _ L' r => OwnB (l ++ putN n k) L' r) := by
  refine F64.fnO (by simp) noRegs_nil (go_of ?_)
  have hl0 := hl
  obtain ⟨A, c, rfl, hc, hm, hA⟩ := hl
  unfold c64
  (intros; try refine go_st ?_); refine go_r 0 0 (by decide) ?_; (refine sJ c64r0.eq_1 ?_; try with_reducible exact True.intro)
  (intros; try refine go_st ?_); refine go_r 9 11 (by decide) ?_; (refine sJ c64r1.eq_1 ?_; try with_reducible exact True.intro)
  refine (Clone_ok l _ G hl0 (by omega) _ []).mono ?_
  rintro r h' ⟨G1, L', rfl, hg1, ys, hys, rfl⟩
  (refine sI ?_; try with_reducible exact True.intro)
  (intros; try refine go_st ?_); refine go_r 11 16 (by decide) ?_; (refine sJ c64r2.eq_1 ?_; try with_reducible exact True.intro)
  refine gd (fun h1 => by simp at h1; omega) (fun h1 => ?_)
  (refine sI ?_; try with_reducible exact True.intro)
  (intros; try refine go_st ?_); refine go_c ?_; (refine sI ?_; try with_reducible exact True.intro)
  refine gb (fun h2 => by simp at h2; omega) (fun h2 => ?_)
  have w1 : IntKind.i64.wrap ((k : Int) - 1) = (k : Int) - 1 := by rw [w64_id] <;> omega
  have w2 : IntKind.i64.wrap (8 * ((k : Int) - 1)) = 8 * (k : Int) - 8 := by rw [w64_id] <;> omega
  (repeat first | refine go_skip ?_ | refine go_b ?_)
  (intros; try refine go_st ?_); refine go_r 18 21 (by decide) ?_; (refine sJ3 c64r4.eq_1 @w1 @w2 ?_; try with_reducible exact True.intro)
  (intros; try refine go_st ?_)
  refine go_loop (fun e h => ∃ (i : Nat) (zc : List Value) (u : Value), (i ≤ k ∧ Cells UE 1 (l ++ (putN n k).take i) zc) ∧ e 8 = .int .i64 (8 * (k : Int) - 8 - 8 * i) ∧ e 1 = .int .u64 (n : Int) ∧ e 7 = u ∧ h.G = G1 ∧ h.D = [] ∧ [Item.row u 5 1 (l ++ (putN n k).take i).length zc].Sublist h.L) (fun e h => iv1 (e 8)) ?_ ?_
  · exact ⟨0, ys, r, ⟨Nat.zero_le _, by simpa using hys⟩, by (refine sI ?_; try with_reducible exact True.intro); simp, eE, eE, rfl, rfl, by simp⟩
  · rintro e ⟨G', L, D⟩ ⟨i, zc, u, ⟨hi, hcs⟩, e8, e1, e7, hG, hD, hL⟩
    dsimp only at hG hD hL
    subst hG hD
    refine go_ghost (ghost_sub hL) ?_
    refine go_keep [1, 7, 8] ?_
    (refine sJ3 @e1 @e7 @e8 ?_; try with_reducible exact True.intro)
    (intros; try refine go_st ?_); refine go_r 21 22 (by decide) ?_; (refine sJ c64r5.eq_1 ?_; try with_reducible exact True.intro)
    (intros; try refine go_st ?_); refine go_c ?_; (refine sI ?_; try with_reducible exact True.intro)
    refine gb (fun ht => ?_) (fun ht => ?_)
    · have hik : i < k := by have := of_decide_eq_true ht; omega
      have htk := putN_take (n := n) hik
      have hsh : binV .shr (.int .u64 (n : Int)) (.int .i64 (8 * (k : Int) - 8 - 8 * i)) = some (.int .u64 ((n / 256 ^ (k - 1 - i) : Nat) : Int)) := by
        have e1 : 8 * (k : Int) - 8 - 8 * i = ((8 * (k - 1 - i) : Nat) : Int) := by omega
        rw [e1, bin_shrN n _ (by omega), Nat.pow_mul]
      generalize n / 256 ^ (k - 1 - i) = q at htk hsh
      have w3 : IntKind.i64.wrap (8 * (k : Int) - 8 - 8 * i - 8) = 8 * (k : Int) - 8 - 8 * ((i + 1 : Nat) : Int) := by rw [w64_id] <;> omega
      have hll : (l ++ (putN n k).take i).length ≤ 200000 := by simp [putN_len]; omega
      (intros; try refine go_st ?_); refine go_r 25 32 (by decide) ?_; (refine sJ3 c64r6.eq_1 @hsh @u8_nat ?_; try with_reducible exact True.intro)
      intro bk hbk
      refine app8 (L1 := []) (L2 := []) rfl rfl hcs (by omega) fun A' c' zc' hzc => ?_
      rw [List.append_assoc, ← htk] at hzc ⊢
      (refine sI ?_; try with_reducible exact True.intro)
      (intros; try refine go_st ?_); refine go_r 23 25 (by decide) ?_; (refine sJ2 c64r7.eq_1 @w3 ?_; try with_reducible exact True.intro)
      (intros; try refine go_st ?_)
      refine go_l ⟨⟨i + 1, zc', _, ⟨by omega, hzc⟩, eE, eE, eE, rfl, rfl, .cons _ (List.Sublist.refl _)⟩, ?_⟩
      (refine sJ @iv1_i ?_; try with_reducible exact True.intro)
      omega
    · have hik : i = k := by have := of_decide_eq_false ht; omega
      subst hik
      refine go_exit ?_
      (refine sI ?_; try with_reducible exact True.intro)
      (intros; try refine go_st ?_); refine go_r 32 33 (by decide) ?_; (refine sJ c64r8.eq_1 ?_; try with_reducible exact True.intro)
      (intros; try refine go_st ?_)
      rw [List.take_of_length_le (by rw [putN_len]; exact Nat.le_refl _)] at hcs ⊢
      refine go_ret (retQ_o _ rfl (List.Sublist.refl _) (noRegs_row noRegs_nil) ?_)
      exact ⟨zc, hcs, rfl⟩
theorem ROPut_ok (l : List UInt8) (n k : Nat) (hn : n < 18446744073709551616) (hk : 1 ≤ k ∧ k ≤ 8) (v : Value) (G : Nat → Option Obj) (hl : SB G v l) (hb : l.length ≤ 100000) :
    FnO Try.prog 69 #[v, .int .u64 (n : Int), .int .i64 (k : Int)] G [] (fun _ L' r => OwnB (l ++ putN n k) L' r) := by
  refine F69.fnO (by simp) noRegs_nil (go_of ?_)
  have hl0 := hl
  obtain ⟨A, c, rfl, hc, hm, hA⟩ := hl
  unfold c69
  (intros; try refine go_st ?_); refine go_r 0 0 (by decide) ?_; (refine sJ c69r0.eq_1 ?_; try with_reducible exact True.intro)
  (intros; try refine go_st ?_); refine go_r 10 12 (by decide) ?_; (refine sJ c69r1.eq_1 ?_; try with_reducible exact True.intro)
  refine (Copy_ok l _ G hl0 (by omega) _ []).mono ?_
  rintro r h' ⟨G1, L', rfl, hg1, ys, hys, rfl⟩
  (refine sI ?_; try with_reducible exact True.intro)
  (intros; try refine go_st ?_); refine go_r 12 17 (by decide) ?_; (refine sJ c69r2.eq_1 ?_; try with_reducible exact True.intro)
  refine gd (fun h1 => by simp at h1; omega) (fun h1 => ?_)
  (refine sI ?_; try with_reducible exact True.intro)
  (intros; try refine go_st ?_); refine go_c ?_; (refine sI ?_; try with_reducible exact True.intro)
  refine gb (fun h2 => by simp at h2; omega) (fun h2 => ?_)
  have w1 : IntKind.i64.wrap ((k : Int) - 1) = (k : Int) - 1 := by rw [w64_id] <;> omega
  (repeat first | refine go_skip ?_ | refine go_b ?_)
  (intros; try refine go_st ?_); refine go_r 0 0 (by decide) ?_; (refine sJ c69r4.eq_1 ?_; try with_reducible exact True.intro)
  (intros; try refine go_st ?_)
  refine go_loop (fun e h => ∃ (i : Nat) (zc : List Value) (u : Value), (i ≤ k ∧ Cells UE 1 (l ++ (putN n k).take i) zc) ∧ e 20 = .int .i64 i ∧ e 19 = .int .i64 k ∧ e 1 = .int .u64 (n : Int) ∧ e 2 = .int .i64 k ∧ e 7 = u ∧ h.G = G1 ∧ h.D = [] ∧ [Item.row u 5 1 (l ++ (putN n k).take i).length zc].Sublist h.L) (fun e h => k - iv (e 20)) ?_ ?_
  · exact ⟨0, ys, r, ⟨Nat.zero_le _, by simpa using hys⟩, eE, eE, eE, eE, eE, rfl, rfl, by simp⟩
  · rintro e ⟨G', L, D⟩ ⟨i, zc, u, ⟨hi, hcs⟩, e20, e19, e1, e2, e7, hG, hD, hL⟩
    dsimp only at hG hD hL
    subst hG hD
    refine go_ghost (ghost_sub hL) ?_
    refine go_keep [1, 2, 7, 19, 20] ?_
    (refine sJ5 @e1 @e2 @e7 @e19 @e20 ?_; try with_reducible exact True.intro)
    (intros; try refine go_st ?_); refine go_r 0 0 (by decide) ?_; (refine sJ c69r5.eq_1 ?_; try with_reducible exact True.intro)
    (intros; try refine go_st ?_); refine go_c ?_; (refine sI ?_; try with_reducible exact True.intro)
    refine gb (fun ht => ?_) (fun ht => ?_)
    · have hik : i < k := by have := of_decide_eq_true ht; omega
      have hw3 := inc_i i k hik (by unfold maxLen; omega)
      have w2 : IntKind.i64.wrap ((k : Int) - 1 - i) = ((k - 1 - i : Nat) : Int) := by rw [w64_id] <;> omega
      have htk := putN_take (n := n) hik
      have hll : (l ++ (putN n k).take i).length ≤ 200000 := by simp [putN_len]; omega
      generalize hmm : k - 1 - i = m at htk w2
      (repeat first | refine go_skip ?_ | refine go_b ?_)
      (intros; try refine go_st ?_); refine go_r 22 23 (by decide) ?_; (refine sJ c69r6.eq_1 ?_; try with_reducible exact True.intro)
      (intros; try refine go_st ?_); refine go_r 23 24 (by decide) ?_; (refine sJ c69r7.eq_1 ?_; try with_reducible exact True.intro)
      (intros; try refine go_st ?_); refine go_r 24 27 (by decide) ?_; (refine sJ3 c69r8.eq_1 @w1 @w2 ?_; try with_reducible exact True.intro)
      (intros; try refine go_st ?_)
      refine go_loop (fun e h => ∃ j : Nat, j ≤ m ∧ e 28 = .int .i64 j ∧ e 27 = .int .i64 m ∧ (∃ q : Nat, q = n / 256 ^ j ∧ e 9 = .int .u64 (q : Int)) ∧ e 1 = .int .u64 (n : Int) ∧ e 2 = .int .i64 k ∧ e 7 = u ∧ e 19 = .int .i64 k ∧ e 20 = .int .i64 i ∧ h = ⟨G', [.row u 5 1 (l ++ (putN n k).take i).length zc], []⟩) (fun e h => m - iv (e 28)) ?_ ?_
      · exact ⟨0, Nat.zero_le _, eE, eE, ⟨n, by simp, eE⟩, eE, eE, eE, eE, eE, rfl⟩
      · rintro e h ⟨j, hj, e28, e27, ⟨q, hq, e9⟩, e1, e2, e7, e19, e20, rfl⟩
        refine go_keep [1, 2, 7, 9, 19, 20, 27, 28] ?_
        (try simp -implicitDefEqProofs only [kR_e, kQ_e, push_cast, Nat.reduceBEq, Nat.reduceAdd, Nat.reduceSub, Nat.reduceMul, Nat.reduceLT, Nat.reduceLeDiff, Nat.reduceEqDiff, reduceIte, Bool.not_true, Bool.not_false, true_and, and_true, Option.map_some, Option.bind_some, Int.toNat_natCast, e1, e2, e7, e9, e19, e20, e27, e28])
        (intros; try refine go_st ?_); refine go_r 0 0 (by decide) ?_; (refine sJ c69r9.eq_1 ?_; try with_reducible exact True.intro)
        (intros; try refine go_st ?_); refine go_c ?_; (refine sI ?_; try with_reducible exact True.intro)
        have hqn : q ≤ n := by rw [hq]; exact Nat.div_le_self _ _
        refine gb (fun ht => ?_) (fun ht => ?_)
        · have hjm : j < m := by have := of_decide_eq_true ht; omega
          have hw4 := inc_i j m hjm (by unfold maxLen; omega)
          have hqq : binV .quo (.int .u64 (q : Int)) (.int .u64 256) = some (.int .u64 ((q / 256 : Nat) : Int)) := bin_quo .u64 q 256 (by decide) (by simp [IntKind.max, IntKind.signed, IntKind.bits]; omega) rfl
          have hq2 : q / 256 = n / 256 ^ (j + 1) := by rw [hq, Nat.div_div_eq_div_mul, Nat.pow_succ]
          generalize q / 256 = q2 at hqq hq2
          (repeat first | refine go_skip ?_ | refine go_b ?_)
          (intros; try refine go_st ?_); refine go_r 30 32 (by decide) ?_; (refine sJ2 c69r10.eq_1 @hqq ?_; try with_reducible exact True.intro)
          (intros; try refine go_st ?_); refine go_r 32 33 (by decide) ?_; (refine sJ2 c69r11.eq_1 @hw4 ?_; try with_reducible exact True.intro)
          (intros; try refine go_st ?_)
          refine go_l ⟨⟨j + 1, by omega, eE, eE, ⟨q2, hq2, eE⟩, eE, eE, eE, eE, eE, rfl⟩, ?_⟩
          (refine sI ?_; try with_reducible exact True.intro)
          omega
        · have hjm : j = m := by have := of_decide_eq_false ht; omega
          subst hjm
          rw [← hq] at htk
          have hr : binV .rem (.int .u64 (q : Int)) (.int .u64 256) = some (.int .u64 ((q % 256 : Nat) : Int)) := bin_rem .u64 q 256 (by decide)
          have hw : IntKind.u8.wrap ((q % 256 : Nat) : Int) = ((UInt8.ofNat q).toNat : Int) := by rw [u8_nat]; simp
          generalize q % 256 = q3 at hr hw
          refine go_exit ?_
          (refine sI ?_; try with_reducible exact True.intro)
          (intros; try refine go_st ?_); refine go_r 33 39 (by decide) ?_; (refine sJ2 c69r12.eq_1 @hr ?_; try with_reducible exact True.intro)
          intro bk hbk
          refine app8 (L1 := []) (L2 := []) rfl hw hcs (by omega) fun A' c' zc' hzc => ?_
          rw [List.append_assoc, ← htk] at hzc ⊢
          (refine sI ?_; try with_reducible exact True.intro)
          (intros; try refine go_st ?_); refine go_r 39 40 (by decide) ?_; (refine sJ2 c69r13.eq_1 @hw3 ?_; try with_reducible exact True.intro)
          (intros; try refine go_st ?_)
          refine go_l ⟨⟨i + 1, zc', _, ⟨by omega, hzc⟩, eE, eE, eE, eE, eE, rfl, rfl, .cons _ (List.Sublist.refl _)⟩, ?_⟩
          (refine sI ?_; try with_reducible exact True.intro)
          omega
    · have hik : i = k := by have := of_decide_eq_false ht; omega
      subst hik
      refine go_exit ?_
      (refine sI ?_; try with_reducible exact True.intro)
      (intros; try refine go_st ?_); refine go_r 40 41 (by decide) ?_; (refine sJ c69r14.eq_1 ?_; try with_reducible exact True.intro)
      (intros; try refine go_st ?_)
      rw [List.take_of_length_le (by rw [putN_len]; exact Nat.le_refl _)] at hcs ⊢
      refine go_ret (retQ_o _ rfl (List.Sublist.refl _) (noRegs_row noRegs_nil) ?_)
      exact ⟨zc, hcs, rfl⟩
end Go.Proofs.Ytfhheomeebejnaa

/- Bytes, part 8 of a proof: seals. No condition. -/
set_option linter.unusedSimpArgs false
set_option linter.unusedVariables false
namespace Go.Proofs.Ytfhheomeebejnaa
open Go Go.Kx
theorem sealB_len (l : List UInt8) : (sealB l).length = l.length + 4 := by simp [sealB, putN_len]
theorem u64_W (v : W32) : IntKind.u64.wrap (v.toNat : Int) = (v.toNat : Int) := by
  have := v.isLt
  simp only [IntKind.wrap, IntKind.bits, IntKind.signed]
  simp
  omega
theorem bin_quoW (v : W32) (b : Nat) (hb : b ≠ 0) : binV .quo (.int .u32 (v.toNat : Int)) (.int .u32 (b : Int)) = some (.int .u32 ((v.toNat / b : Nat) : Int)) := by
  have h := v.isLt
  exact bin_quo .u32 v.toNat b hb (by simp [IntKind.max, IntKind.signed, IntKind.bits]; omega) rfl
theorem four_ok (v : W32) (G : Nat → Option Obj) : FnO Try.prog 73 #[vW v] G [] (fun _ L' r => OwnB (putN v.toNat 4) L' r) := by
  refine F73.fnO (by simp) noRegs_nil (go_of ?_)
  unfold c73
  unfold vW
  (intros; try refine go_st ?_); refine go_r 0 0 (by decide) ?_; (refine sJ c73r0.eq_1 ?_; try with_reducible exact True.intro)
  have q1 : binV .quo (.int .u32 (v.toNat : Int)) (.int .u32 16777216) = some (.int .u32 ((v.toNat / 16777216 : Nat) : Int)) := bin_quoW v 16777216 (by decide)
  have q2 : binV .quo (.int .u32 (v.toNat : Int)) (.int .u32 65536) = some (.int .u32 ((v.toNat / 65536 : Nat) : Int)) := bin_quoW v 65536 (by decide)
  have q3 : binV .quo (.int .u32 (v.toNat : Int)) (.int .u32 256) = some (.int .u32 ((v.toNat / 256 : Nat) : Int)) := bin_quoW v 256 (by decide)
  have hput : putN v.toNat 4 = [UInt8.ofNat (v.toNat / 16777216), UInt8.ofNat (v.toNat / 65536), UInt8.ofNat (v.toNat / 256), UInt8.ofNat v.toNat] := by
    simp [putN, List.range_succ]
  rw [hput]
  generalize v.toNat / 16777216 = n1 at q1 ⊢
  generalize v.toNat / 65536 = n2 at q2 ⊢
  generalize v.toNat / 256 = n3 at q3 ⊢
  generalize v.toNat = n4 at *
  (intros; try refine go_st ?_); refine go_r 3 15 (by decide) ?_; (refine sJ5 c73r1.eq_1 @q1 @q2 @q3 @u8_nat ?_; try with_reducible exact True.intro)
  intro b hb
  (intros; try refine go_st ?_)
  refine go_ret (retQ_o _ rfl (List.Sublist.refl _) (noRegs_row noRegs_nil) ?_)
  exact ⟨_, cells_b [UInt8.ofNat n1, UInt8.ofNat n2, UInt8.ofNat n3, UInt8.ofNat n4], rfl⟩
theorem Seal_ok (l : List UInt8) (v : Value) (G : Nat → Option Obj) (hl : SB G v l) (hb : l.length ≤ 100000) : FnO Try.prog 63 #[v] G [] (fun _ L' r => OwnB (sealB l) L' r) := by
  refine F63.fnO (by simp) noRegs_nil (go_of ?_)
  unfold c63
  have hsum := Sum_ok l v G hl
  unfold sealB
  generalize crcB l = w at hsum ⊢
  (intros; try refine go_st ?_); refine go_r 0 0 (by decide) ?_; (refine sJ c63r0.eq_1 ?_; try with_reducible exact True.intro)
  (intros; try refine go_st ?_); refine go_r 3 9 (by decide) ?_; (refine sJ c63r1.eq_1 ?_; try with_reducible exact True.intro)
  refine apX_v (.inr ⟨⟨none, rfl⟩, rfl, rfl, rfl, rfl⟩) hl rfl UE1 (by unfold maxLen; omega) fun ys A c hc => ?_
  simp only [Nat.zero_add, List.nil_append]
  (refine sI ?_; try with_reducible exact True.intro)
  refine (hsum _ []).mono ?_
  rintro r h' ⟨G1, rfl, hg1, rfl⟩
  unfold vW
  (refine sJ @u64_W ?_; try with_reducible exact True.intro)
  refine callsH_gx F64.enters (gx_slv_at [] _ (by decide) hc) ?_
  rintro h' ⟨G2, rfl, hg2, hv2⟩
  refine (OPut_ok l w.toNat 4 (by have := w.isLt; omega) (by omega) _ G2 hv2 hb _ []).mono ?_
  rintro r h' ⟨G3, L', rfl, hg3, ys3, hys3, rfl⟩
  (refine sI ?_; try with_reducible exact True.intro)
  (intros; try refine go_st ?_)
  refine go_ret (retQ_o _ rfl (List.Sublist.refl _) (noRegs_row noRegs_nil) ?_)
  exact ⟨ys3, hys3, rfl⟩
theorem RSeal_ok (l : List UInt8) (v : Value) (G : Nat → Option Obj) (hl : SB G v l) (hb : l.length ≤ 100000) : FnO Try.prog 68 #[v] G [] (fun _ L' r => OwnB (sealB l) L' r) := by
  refine F68.fnO (by simp) noRegs_nil (go_of ?_)
  unfold c68
  have hsum := RSum_ok l v G hl
  unfold sealB
  generalize crcB l = w at hsum ⊢
  (intros; try refine go_st ?_); refine go_r 0 0 (by decide) ?_; (refine sJ c68r0.eq_1 ?_; try with_reducible exact True.intro)
  (intros; try refine go_st ?_); refine go_r 3 10 (by decide) ?_; (refine sJ c68r1.eq_1 ?_; try with_reducible exact True.intro)
  intro b0 hb0
  refine apX_v (.inr ⟨⟨_, rfl⟩, rfl, rfl, rfl, rfl⟩) hl rfl UE1 (by unfold maxLen; omega) fun ys A c hc => ?_
  simp only [Nat.zero_add, List.nil_append]
  (refine sI ?_; try with_reducible exact True.intro)
  refine (hsum _ _).mono ?_; rintro _ _ ⟨rfl, rfl⟩; (refine sI ?_; try with_reducible exact True.intro)
  refine (ownL_d (by decide) (four_ok w G) _ []).mono ?_
  rintro r h' ⟨G1, rfl, hg1, hv1⟩
  (refine sI ?_; try with_reducible exact True.intro)
  refine apX_v (L1 := []) (.inl rfl) hv1 rfl UE1 (by rw [putN_len]; unfold maxLen; omega) fun ys' A' c' hc' => ?_
  have hh := hc.app hc'
  (refine sI ?_; try with_reducible exact True.intro)
  (intros; try refine go_st ?_)
  refine go_ret (retQ_o _ rfl (List.Sublist.refl _) (noRegs_row noRegs_nil) ?_)
  rw [← List.length_append]
  exact ⟨_, hh, rfl⟩
end Go.Proofs.Ytfhheomeebejnaa

/- Bytes, part 12 of a proof: a batch's bytes, the form. No condition. -/
set_option linter.unusedSimpArgs false
set_option linter.unusedVariables false
namespace Go.Proofs.Ytfhheomeebejnaa
open Go Go.Kx
def headN (b : Batch) : List Int := [b.base, b.last - b.base, b.src, b.epoch, b.pid, b.gen, b.seq]
def headB (l : List Int) : List UInt8 := l.flatMap pvB
def markB (b : Batch) : UInt8 := UInt8.ofNat (b.ctl.toNat + if b.txn = true then 4 else 0)
/-- The records' bytes. -/
def recsB (base stamp : Int) (l : List Rec) : List UInt8 := l.flatMap fun r => prB r base stamp
def tailB (b : Batch) : List UInt8 := match b.recs with
  | [] => []
  | r :: rs => pvB r.stamp ++ recsB b.base r.stamp (r :: rs)
def bodyB (b : Batch) : List UInt8 := headB (headN b) ++ [markB b] ++ pvB b.recs.length ++ tailB b
def bytesB (b : Batch) : List UInt8 := putN (sealB (bodyB b)).length 4 ++ sealB (bodyB b)
theorem headB_len : ∀ (l : List Int), (headB l).length ≤ 10 * l.length
  | [] => by simp [headB]
  | n :: l => by
    have := headB_len l
    have h2 := pvB_len n
    simp [headB] at this ⊢
    omega
theorem headB_succ {l : List Int} {k : Nat} {n : Int} (h : l[k]? = some n) : headB (l.take (k + 1)) = headB (l.take k) ++ pvB n := by
  have hk := List.getElem?_eq_some_iff.1 h
  rw [List.take_succ_eq_append_getElem hk.1, hk.2]
  simp [headB]
theorem recsB_succ {base stamp : Int} {l : List Rec} {k : Nat} {r : Rec} (h : l[k]? = some r) : recsB base stamp (l.take (k + 1)) = recsB base stamp (l.take k) ++ prB r base stamp := by
  have hk := List.getElem?_eq_some_iff.1 h
  rw [List.take_succ_eq_append_getElem hk.1, hk.2]
  simp [recsB]
theorem prB_len {r : Rec} {base stamp : Int} (hk : r.key.size ≤ 64) (hv : r.val.size ≤ 64) : (prB r base stamp).length ≤ 169 := by
  have h1 := pvB_len (r.off - base)
  have h2 := pvB_len (r.stamp - stamp)
  have h3 := ptB_len r.key
  have h4 := ptB_len r.val
  simp [prB]
  omega
/-- Of records in order: that each may be, and how many there are. -/
theorem rowF_all : ∀ (l : List Rec) (last nx : Int), rowF last nx l = true → (∀ r ∈ l, chkR r = 0) ∧ nx + l.length ≤ max nx (last + 1)
  | [], last, nx, _ => ⟨by simp, by simp; omega⟩
  | r :: l, last, nx, h => by
    simp only [rowF, Bool.and_eq_true, decide_eq_true_eq] at h
    obtain ⟨⟨⟨h1, h2⟩, h3⟩, h4⟩ := h
    obtain ⟨h5, h6⟩ := rowF_all l last (r.off + 1) h4
    refine ⟨fun x hx => ?_, ?_⟩
    · rcases List.mem_cons.1 hx with rfl | hx
      · exact h1
      · exact h5 x hx
    · simp
      omega
theorem form_recs {b : Batch} (h : Form b) : (∀ r ∈ b.recs, chkR r = 0) ∧ b.recs.length ≤ 16 := by
  rcases h.2.2.2.2.2 with h9 | h9
  · obtain ⟨h1, h2⟩ := rowF_all _ _ _ h9.2
    have := h.2.2.1
    exact ⟨h1, by omega⟩
  · rw [h9.2.2.1]
    exact ⟨by simp, by simp⟩
end Go.Proofs.Ytfhheomeebejnaa

/- Bytes, part 13 of a proof: a batch, written. No condition. -/
set_option linter.unusedSimpArgs false
set_option linter.unusedVariables false
namespace Go.Proofs.Ytfhheomeebejnaa
open Go Go.Kx
theorem F48 : Fun Try.prog 48 91 v48 c48 o48 := Fun.mk' Try.func48 Try.ntmps48 (by kernel_rfl) (by kernel_rfl) s48 q48
theorem head_at {b : Batch} {k : Nat} {n : Int} (h : (headN b)[k]? = some n) : ixVV 7 1 none (.agg #[.int .i64 b.base, .int .i64 (b.last - b.base), .int .i64 b.src, .int .i64 b.epoch, .int .i64 b.pid, .int .i64 b.gen, .int .i64 b.seq]) (.int .i64 (k : Int)) = some (.int .i64 n) := by
  have hk := (List.getElem?_eq_some_iff.1 h).1
  simp [headN] at hk
  match k, h with
  | 0, h => cases h; rfl
  | 1, h => cases h; rfl
  | 2, h => cases h; rfl
  | 3, h => cases h; rfl
  | 4, h => cases h; rfl
  | 5, h => cases h; rfl
  | 6, h => cases h; rfl
theorem or_4 {n : Int} (h : n = 0 ∨ n = 1 ∨ n = 2) : binV .or (.int .u8 (IntKind.u8.wrap n)) (.int .u8 4) = some (.int .u8 ((UInt8.ofNat (n.toNat + 4)).toNat : Int)) := by
  rcases h with rfl | rfl | rfl <;> rfl
theorem mark_0 {n : Int} (h : n = 0 ∨ n = 1 ∨ n = 2) : IntKind.u8.wrap n = ((UInt8.ofNat n.toNat).toNat : Int) := by
  rcases h with rfl | rfl | rfl <;> rfl
theorem write_ok (x : Batch) (cs : List Value) (G : Nat → Option Obj) (hx : BE G x cs) (hf : Form x) : FnO Try.prog 48 #[.agg cs.toArray] G [] (fun _ L' r => OwnB (bytesB x) L' r) := by
  obtain ⟨A, c, rfl, ⟨hc, hm, hA⟩, i1, i2, i3, i4, i5, i6, i7, i8⟩ := hx
  have hf0 := hf
  obtain ⟨⟨f1, f2, f3⟩, ⟨f4, f5, f6⟩, ⟨f7, f8, f9, f10⟩, f11, f12, f13⟩ := hf
  simp [rng] at f1 f2 f3 f4 f5 f6
  refine F48.fnO (by simp) noRegs_nil (go_of ?_)
  unfold c48 cellH
  have w1 : IntKind.i64.wrap (x.last - x.base) = x.last - x.base := by rw [w64_id] <;> omega
  (intros; try refine go_st ?_); refine go_r 0 0 (by decide) ?_; (refine sJ c48r0.eq_1 ?_; try with_reducible exact True.intro)
  (intros; try refine go_st ?_); refine go_r 0 0 (by decide) ?_; (refine sJ c48r1.eq_1 ?_; try with_reducible exact True.intro)
  (intros; try refine go_st ?_); refine go_r 13 29 (by decide) ?_; (refine sJ2 c48r2.eq_1 @w1 ?_; try with_reducible exact True.intro)
  (intros; try refine go_st ?_)
  refine go_ghost (ghost_nil none 5 1) ?_
  refine go_loop (fun e h => ∃ (k : Nat) (G' : Nat → Option Obj) (u : Value) (zc : List Value), (k ≤ 7 ∧ Gle G G' ∧ Cells UE 1 (headB ((headN x).take k)) zc) ∧ e 30 = .int .i64 k ∧ e 29 = .agg #[.int .i64 x.base, .int .i64 (x.last - x.base), .int .i64 x.src, .int .i64 x.epoch, .int .i64 x.pid, .int .i64 x.gen, .int .i64 x.seq] ∧ e 3 = u ∧ h.G = G' ∧ h.D = [] ∧ [.row u 5 1 (headB ((headN x).take k)).length zc, .reg 1 [.int .i64 x.base, .int .i64 x.last, .int .i64 x.src, .int .i64 x.epoch, .int .i64 x.pid, .int .i64 x.gen, .int .i64 x.seq, .bool x.txn, .int .i64 x.ctl, .slice A x.recs.length c]].Sublist h.L) (fun e h => 7 - iv (e 30)) ?_ ?_
  · exact ⟨0, G, _, [], ⟨Nat.zero_le _, .refl _, .nil⟩, eE, eE, eE, rfl, rfl, List.Sublist.refl _⟩
  · rintro e ⟨G', L, D⟩ ⟨k, G2, u, zc, ⟨hk, hgg, hcs⟩, e30, e29, e3, hG, hD, hL⟩
    dsimp only at hG hD hL
    subst hG hD
    refine go_ghost (ghost_sub hL) ?_
    refine go_keep [3, 29, 30] ?_
    (refine sJ3 @e3 @e29 @e30 ?_; try with_reducible exact True.intro)
    have hhl := headB_len ((headN x).take k)
    have hh7 : ((headN x).take k).length ≤ 7 := by simp [headN]; omega
    (intros; try refine go_st ?_); refine go_r 0 0 (by decide) ?_; (refine sJ c48r3.eq_1 ?_; try with_reducible exact True.intro)
    (intros; try refine go_st ?_); refine go_c ?_; (refine sI ?_; try with_reducible exact True.intro)
    refine gb (fun ht => ?_) (fun ht => ?_)
    · have hkl : k < 7 := by simp at ht; omega
      have hw3 := inc_i k 7 (by omega) (by unfold maxLen; omega)
      obtain ⟨n, hn⟩ : ∃ n, (headN x)[k]? = some n := ⟨(headN x)[k]'(by simp [headN]; omega), List.getElem?_eq_getElem _⟩
      have hin : I64 n := by
        have := List.mem_of_getElem? hn
        simp [headN] at this
        unfold I64 at *
        omega
      have hix := head_at hn
      have hsucc := headB_succ hn
      (repeat first | refine go_skip ?_ | refine go_b ?_)
      (intros; try refine go_st ?_); refine go_r 32 33 (by decide) ?_; (refine sJ2 c48r4.eq_1 @hix ?_; try with_reducible exact True.intro)
      (intros; try refine go_st ?_); refine go_r 33 36 (by decide) ?_; (refine sJ c48r5.eq_1 ?_; try with_reducible exact True.intro)
      refine callsH_gx F61.enters (gx_slv_at [] _ (by decide) hcs) ?_
      rintro h' ⟨G3, rfl, hg3, hv3⟩
      refine (PutVar_ok _ n hin _ G3 hv3 (by omega) _ []).mono ?_
      rintro r h' ⟨G4, L', rfl, hg4, ys, hys, rfl⟩
      rw [← hsucc] at hys ⊢
      (refine sI ?_; try with_reducible exact True.intro)
      (intros; try refine go_st ?_); refine go_r 36 37 (by decide) ?_; (refine sJ2 c48r6.eq_1 @hw3 ?_; try with_reducible exact True.intro)
      (intros; try refine go_st ?_)
      refine go_l ⟨⟨k + 1, G4, _, ys, ⟨by omega, hgg.trans (hg3.trans hg4), hys⟩, eE, eE, eE, rfl, rfl, List.Sublist.refl _⟩, ?_⟩
      (refine sI ?_; try with_reducible exact True.intro)
      omega
    · have hkl : k = 7 := by simp at ht; omega
      subst hkl
      rw [show (headN x).take 7 = headN x from rfl] at hcs hhl ⊢
      have hmx := form_recs hf0
      have hh8 : (headN x).length = 7 := rfl
      refine go_exit ?_
      (refine sI ?_; try with_reducible exact True.intro)
      (intros; try refine go_st ?_); refine go_r 38 40 (by decide) ?_; (refine sJ c48r7.eq_1 ?_; try with_reducible exact True.intro)
      have hend : ∀ (e : Env) (G6 : Nat → Option Obj) (u : Value) (zc : List Value), Cells UE 1 (bodyB x) zc → (bodyB x).length ≤ 5000 → e 3 = u →
          go none Try.prog 91 v48.1 v48.2 (retQ o48 fun v h => OwnB (bytesB x) h.L v) [Td.s ((SC.reg false c48r20).seq ((SC.reg false c48r21).seq SC.ret))] e ⟨G6, [.row u 5 1 (bodyB x).length zc, .reg 1 [.int .i64 x.base, .int .i64 x.last, .int .i64 x.src, .int .i64 x.epoch, .int .i64 x.pid, .int .i64 x.gen, .int .i64 x.seq, .bool x.txn, .int .i64 x.ctl, .slice A x.recs.length c]], []⟩ := fun e G6 u zc hzc hbl e3 => by
        refine go_keep [3] ?_
        (refine sJ @e3 ?_; try with_reducible exact True.intro)
        (intros; try refine go_st ?_); refine go_r 83 85 (by decide) ?_; (refine sJ c48r20.eq_1 ?_; try with_reducible exact True.intro)
        refine callsH_gx F63.enters (gx_slv_at [] _ (by decide) hzc) ?_
        rintro h' ⟨G7, rfl, hg7, hv7⟩
        refine (Seal_ok _ _ G7 hv7 (by omega) _ []).mono ?_
        rintro r h' ⟨G8, L', rfl, hg8, ys, hys, rfl⟩
        (refine sI ?_; try with_reducible exact True.intro)
        intro _
        have hsl := sealB_len (bodyB x)
        refine go_gx (gx_slv_at [] _ (by decide) hys) ?_
        rintro h' ⟨G9, rfl, hg9, hv9⟩
        obtain ⟨As, cs', rfl, -, -, -⟩ := id hv9
        have hwl : IntKind.u64.wrap ((sealB (bodyB x)).length : Int) = ((sealB (bodyB x)).length : Int) := by rw [IntKind.wrap_u64]; omega
        (intros; try refine go_st ?_); refine go_r 85 91 (by decide) ?_; (refine sJ2 c48r21.eq_1 @hwl ?_; try with_reducible exact True.intro)
        refine (OPut_ok [] (sealB (bodyB x)).length 4 (by omega) (by omega) _ G9 SB.nil (by simp) _ []).mono ?_
        rintro r h' ⟨G10, L', rfl, hg10, ys2, hys2, rfl⟩
        simp only [List.nil_append] at hys2 ⊢
        (refine sI ?_; try with_reducible exact True.intro)
        refine apX_v (L1 := []) (.inl rfl) (SB.le hv9 hg10) rfl UE1 (by rw [putN_len]; unfold maxLen; omega) fun ys' A' c' hc' => ?_
        have hh := hys2.app hc'
        (refine sI ?_; try with_reducible exact True.intro)
        (intros; try refine go_st ?_)
        refine go_ret (retQ_o _ rfl (.cons_cons _ (List.nil_sublist _)) (noRegs_row noRegs_nil) ?_)
        rw [← List.length_append]
        exact ⟨_, hh, rfl⟩
      have hrest : ∀ (e : Env), e 3 = u → e 6 = .int .u8 ((markB x).toNat : Int) →
          go none Try.prog 91 v48.1 v48.2 (retQ o48 fun v h => OwnB (bytesB x) h.L v) [Td.s ((SC.rgX c48r10).seq (((SC.reg false c48r11).seq (SC.cond (O.t 55) ((SC.reg false c48r12).seq ((SC.reg false c48r13).seq ((SC.reg false c48r14).seq (SC.blk 2 ((SC.reg false c48r15).seq ((SC.cond (O.t 68) SC.skip (SC.exit 2)).seq ((SC.blk 3 ((SC.reg false c48r16).seq ((SC.reg false c48r17).seq (SC.reg false c48r18)))).seq (SC.reg false c48r19)))).loop)))) SC.skip)).seq ((SC.reg false c48r20).seq ((SC.reg false c48r21).seq SC.ret))))] e ⟨G', [.row u 5 1 (headB (headN x)).length zc, .reg 1 [.int .i64 x.base, .int .i64 x.last, .int .i64 x.src, .int .i64 x.epoch, .int .i64 x.pid, .int .i64 x.gen, .int .i64 x.seq, .bool x.txn, .int .i64 x.ctl, .slice A x.recs.length c]], []⟩ := fun e e3 e6 => by
        refine go_keep [3, 6] ?_
        (refine sJ2 @e3 @e6 ?_; try with_reducible exact True.intro)
        (intros; try refine go_st ?_); refine go_x _ (.cons _ (List.Sublist.refl _)) (by decide) ?_; (refine sJ c48r10.eq_1 ?_; try with_reducible exact True.intro)
        intro bk hbk
        refine ⟨grow_L (fun _ _ h => h) (.cons _ (.cons _ (List.Sublist.refl _))), ?_⟩
        (refine sI ?_; try with_reducible exact True.intro)
        refine app8 (L1 := []) (L2 := [_]) (x := markB x) rfl rfl hcs (by omega) fun A' c' zc' hzc => ?_
        (refine sI ?_; try with_reducible exact True.intro)
        refine ⟨grow_L (fun _ _ h => h) (.cons _ (.cons _ (List.Sublist.refl _))), ?_⟩
        (refine sI ?_; try with_reducible exact True.intro)
        refine callsH_gx F61.enters (gx_slv_at [_] _ (by decide) hzc) ?_
        rintro h' ⟨G4, rfl, hg4, hv4⟩
        refine (PutVar_ok _ x.recs.length (by unfold I64; omega) _ G4 hv4 (by simp; omega) _ []).mono ?_
        rintro r h' ⟨G5, L', rfl, hg5, ys5, hys5, rfl⟩
        refine ⟨grow_L (hg4.trans hg5) (.cons _ (.cons _ (List.Sublist.refl _))), ?_⟩
        (refine sI ?_; try with_reducible exact True.intro)
        have hpl := pvB_len x.recs.length
        (repeat first | (with_reducible intro _) | refine go_seq ?_)
        refine go_ghost (ghost_sub (L' := [.row r 5 1 (headB (headN x) ++ [markB x] ++ pvB x.recs.length).length ys5, .reg 1 [.int .i64 x.base, .int .i64 x.last, .int .i64 x.src, .int .i64 x.epoch, .int .i64 x.pid, .int .i64 x.gen, .int .i64 x.seq, .bool x.txn, .int .i64 x.ctl, .slice A x.recs.length c]]) ?hsub) ?_
        case hsub => exact .cons_cons _ (.cons _ (List.Sublist.refl _))
        (intros; try refine go_st ?_); refine go_r 53 55 (by decide) ?_; (refine sJ c48r11.eq_1 ?_; try with_reducible exact True.intro)
        (intros; try refine go_st ?_); refine go_c ?_; (refine sI ?_; try with_reducible exact True.intro)
        refine gb (fun k1 => ?_) (fun k1 => ?_)
        · have hpos : 0 < x.recs.length := by simpa using k1
          obtain ⟨r0, h0⟩ : ∃ r0, x.recs[0]? = some r0 := ⟨x.recs[0], List.getElem?_eq_getElem hpos⟩
          have hg5 := hgg.trans (hg4.trans hg5)
          have hA5 := hA.le hg5 (E' := RR) fun _ _ h => h
          (intros; try refine go_st ?_); refine go_r 57 61 (by decide) ?_; (refine sJ c48r12.eq_1 ?_; try with_reducible exact True.intro)
          refine hA5.x_lf h0 rfl rfl (fun cs h => by rw [h.1]; rfl) fun a ha => ?_
          (refine sI ?_; try with_reducible exact True.intro)
          have hck0 := hmx.1 r0 (List.mem_of_getElem? h0)
          obtain ⟨⟨-, q0⟩, -, -⟩ := chk_small hck0
          have q0' := q0
          simp [inO] at q0'
          have hst : I64 r0.stamp := by unfold I64; omega
          (intros; try refine go_st ?_); refine go_r 61 64 (by decide) ?_; (refine sJ c48r13.eq_1 ?_; try with_reducible exact True.intro)
          refine callsH_gx F61.enters (gx_slv_at [] _ (by decide) hys5) ?_
          rintro h' ⟨G6, rfl, hg6, hv6⟩
          refine (PutVar_ok _ r0.stamp hst _ G6 hv6 (by simp; omega) _ []).mono ?_
          rintro r h' ⟨G7, L', rfl, hg7, ys7, hys7, rfl⟩
          have hp7 := pvB_len r0.stamp
          (refine sI ?_; try with_reducible exact True.intro)
          have hA7 := hA5.le (hg6.trans hg7) (E' := RR) fun _ _ h => h
          have hst0 : tailB x = pvB r0.stamp ++ recsB x.base r0.stamp x.recs := by
            match hr : x.recs, h0 with
            | r :: rs, h0 => simp [hr] at h0; subst h0; rw [tailB, hr]
          generalize hP : headB (headN x) ++ [markB x] ++ pvB x.recs.length ++ pvB r0.stamp = P at hys7 ⊢
          have hPl : P.length ≤ 100 := by rw [← hP]; simp; omega
          (intros; try refine go_st ?_); refine go_r 0 0 (by decide) ?_; (refine sJ c48r14.eq_1 ?_; try with_reducible exact True.intro)
          (intros; try refine go_st ?_)
          refine go_loop (fun e h => ∃ (k : Nat) (G' : Nat → Option Obj) (u : Value) (zc : List Value), (k ≤ x.recs.length ∧ Gle G7 G' ∧ Cells UE 1 (P ++ recsB x.base r0.stamp (x.recs.take k)) zc ∧ (recsB x.base r0.stamp (x.recs.take k)).length ≤ 169 * k) ∧ e 67 = .int .i64 k ∧ e 66 = .int .i64 x.recs.length ∧ e 65 = .slice A x.recs.length c ∧ e 7 = .int .i64 r0.stamp ∧ e 3 = u ∧ h.G = G' ∧ h.D = [] ∧ [.row u 5 1 (P ++ recsB x.base r0.stamp (x.recs.take k)).length zc, .reg 1 [.int .i64 x.base, .int .i64 x.last, .int .i64 x.src, .int .i64 x.epoch, .int .i64 x.pid, .int .i64 x.gen, .int .i64 x.seq, .bool x.txn, .int .i64 x.ctl, .slice A x.recs.length c]].Sublist h.L) (fun e h => x.recs.length - iv (e 67)) ?_ ?_
          · exact ⟨0, G7, r, ys7, ⟨Nat.zero_le _, .refl _, by simpa [recsB] using hys7, by simp [recsB]⟩, eE, eE, eE, eE, eE, rfl, rfl, by simp [recsB]⟩
          · rintro e ⟨G', L, D⟩ ⟨k, G2, u, zc, ⟨hk, hgg, hcs, hrl⟩, e67, e66, e65, e7, e3, hG, hD, hL⟩
            dsimp only at hG hD hL
            subst hG hD
            refine go_ghost (ghost_sub hL) ?_
            refine go_keep [3, 7, 65, 66, 67] ?_
            (refine sJ5 @e3 @e7 @e65 @e66 @e67 ?_; try with_reducible exact True.intro)
            (intros; try refine go_st ?_); refine go_r 0 0 (by decide) ?_; (refine sJ c48r15.eq_1 ?_; try with_reducible exact True.intro)
            (intros; try refine go_st ?_); refine go_c ?_; (refine sI ?_; try with_reducible exact True.intro)
            refine gb (fun ht => ?_) (fun ht => ?_)
            · have hkl : k < x.recs.length := by simpa using ht
              have hw3 := inc_i k c (by omega) hm
              obtain ⟨r, hr⟩ : ∃ r, x.recs[k]? = some r := ⟨x.recs[k], List.getElem?_eq_getElem (by omega)⟩
              have hsucc := recsB_succ (base := x.base) (stamp := r0.stamp) hr
              have hckr := hmx.1 r (List.mem_of_getElem? hr)
              have hcs' := chk_small hckr
              have hpl := prB_len (base := x.base) (stamp := r0.stamp) hcs'.2.1 hcs'.2.2
              have hput : putR r x.base r0.stamp = (prB r x.base r0.stamp, 0) := by
                rw [putR, if_neg (by simp [hckr]), if_neg (by simp [inO, f1, q0'])]
              have hAk := hA7.le hgg (E' := RR) fun _ _ h => h
              (repeat first | (with_reducible intro _) | refine go_skip ?_ | refine go_b ?_)
              (intros; try refine go_st ?_); refine go_r 69 71 (by decide) ?_; (refine sJ c48r16.eq_1 ?_; try with_reducible exact True.intro)
              refine hAk.x_ld hr rfl rfl ?_
              rintro a1 ha1 cs ⟨rfl, -⟩
              have hPut := Put_ok r x.base r0.stamp
              unfold cellR at hPut ⊢
              (refine sI ?_; try with_reducible exact True.intro)
              (intros; try refine go_st ?_); refine go_r 71 79 (by decide) ?_; (refine sJ c48r17.eq_1 ?_; try with_reducible exact True.intro)
              refine (hPut G' _ []).mono ?_
              rintro v h' ⟨G8, L', rfl, hg8, w, rfl, ys8, hys8, rfl⟩
              rw [hput] at hys8 ⊢
              (refine sI ?_; try with_reducible exact True.intro)
              intro _
              refine go_gx (gx_slv_at [] _ (by decide) hys8) ?_
              rintro h' ⟨G9, rfl, hg9, hv9⟩
              (intros; try refine go_st ?_); refine go_r 79 82 (by decide) ?_; (refine sJ c48r18.eq_1 ?_; try with_reducible exact True.intro)
              refine apX_v (L1 := [_]) (.inl rfl) hv9 rfl UE1 (by simp; unfold maxLen; omega) fun ys' A' c' hc' => ?_
              have hh := hcs.app hc'
              rw [List.append_assoc, ← hsucc] at hh
              rw [← List.length_append, List.append_assoc, ← hsucc]
              (refine sI ?_; try with_reducible exact True.intro)
              (intros; try refine go_st ?_); refine go_r 82 83 (by decide) ?_; (refine sJ2 c48r19.eq_1 @hw3 ?_; try with_reducible exact True.intro)
              (intros; try refine go_st ?_)
              refine go_l ⟨⟨k + 1, G9, _, _, ⟨by omega, hgg.trans (hg8.trans hg9), hh, by rw [hsucc, List.length_append]; omega⟩, eE, eE, eE, eE, eE, rfl, rfl, .cons _ (List.Sublist.refl _)⟩, ?_⟩
              (refine sI ?_; try with_reducible exact True.intro)
              omega
            · have hkl : k = x.recs.length := by simp at ht; omega
              subst hkl
              rw [List.take_length] at hcs hrl
              have hbody : bodyB x = P ++ recsB x.base r0.stamp x.recs := by rw [bodyB, hst0, ← hP]; simp
              refine go_exit ?_
              (refine sI ?_; try with_reducible exact True.intro)
              rw [List.take_length, ← hbody]
              rw [← hbody] at hcs
              refine hend _ G' _ zc hcs (by rw [hbody]; simp; omega) ?_
              (refine sI ?_; try with_reducible exact True.intro)
        · have hnil : x.recs = [] := by have := of_decide_eq_false k1; exact List.eq_nil_of_length_eq_zero (by omega)
          have htl : tailB x = [] := by rw [tailB, hnil]
          have hbody : bodyB x = headB (headN x) ++ [markB x] ++ pvB x.recs.length := by rw [bodyB, htl, List.append_nil]
          rw [← hbody] at hys5 ⊢
          (repeat first | refine go_skip ?_ | refine go_b ?_)
          refine hend _ G5 _ ys5 hys5 (by rw [hbody]; simp; omega) ?_
          (refine sI ?_; try with_reducible exact True.intro)
      have hctl : x.ctl = 0 ∨ x.ctl = 1 ∨ x.ctl = 2 := by
        rcases f13 with h | h
        · exact .inl h.1
        · exact .inr h.1
      (intros; try refine go_st ?_); refine go_r 0 0 (by decide) ?_; (refine sJ c48r8.eq_1 ?_; try with_reducible exact True.intro)
      (intros; try refine go_st ?_); refine go_c ?_; (refine sI ?_; try with_reducible exact True.intro)
      refine gb (fun k1 => ?_) (fun k1 => ?_)
      · have hm4 := or_4 hctl
        (intros; try refine go_st ?_); refine go_r 42 44 (by decide) ?_; (refine sJ2 c48r9.eq_1 @hm4 ?_; try with_reducible exact True.intro)
        intro _
        (repeat first | refine go_skip ?_ | refine go_b ?_)
        refine hrest _ ?_ ?_ <;> (refine sI ?_; try with_reducible exact True.intro)
        rw [markB, if_pos k1]
      · (repeat first | refine go_skip ?_ | refine go_b ?_)
        refine hrest _ ?_ ?_ <;> (refine sI ?_; try with_reducible exact True.intro)
        rw [markB, if_neg (by rw [k1]; simp), mark_0 hctl]
        rfl
end Go.Proofs.Ytfhheomeebejnaa

/- Bytes, part 14 of a proof: a batch, written, by the document. No condition. -/
set_option linter.unusedSimpArgs false
set_option linter.unusedVariables false
namespace Go.Proofs.Ytfhheomeebejnaa
open Go Go.Kx
theorem F51 : Fun Try.prog 51 91 v51 c51 o51 := Fun.mk' Try.func51 Try.ntmps51 (by kernel_rfl) (by kernel_rfl) s51 q51
theorem cells_i : ∀ (l : List Int), (∀ x ∈ l, I64 x) → Cells IE 1 l (l.map fun n => .int .i64 n)
  | [], _ => .nil
  | n :: l, h => .cons (cs := [.int .i64 n]) ⟨rfl, h n (.head _)⟩ rfl (cells_i l fun x hx => h x (.tail _ hx))
theorem mark_r {n : Int} (h : n = 0 ∨ n = 1 ∨ n = 2) : IntKind.u8.wrap (IntKind.i64.wrap (n + 4)) = ((UInt8.ofNat (n.toNat + 4)).toNat : Int) := by
  rcases h with rfl | rfl | rfl <;> rfl
/-- The bytes of the first records. -/
def tailK (x : Batch) (k : Nat) : List UInt8 := tailB { x with recs := x.recs.take k }
theorem tailK_0 (x : Batch) : tailK x 0 = [] := by simp [tailK, tailB]
theorem tailK_n (x : Batch) : tailK x x.recs.length = tailB x := by simp [tailK]
theorem tailK_pos {x : Batch} {k : Nat} {r0 : Rec} (h0 : x.recs[0]? = some r0) (hk : 0 < k) : tailK x k = pvB r0.stamp ++ recsB x.base r0.stamp (x.recs.take k) := by
  match hr : x.recs, h0 with
  | r :: rs, h0 =>
    simp at h0
    subst h0
    obtain ⟨k, rfl⟩ : ∃ j, k = j + 1 := ⟨k - 1, by omega⟩
    simp [tailK, tailB, hr]
theorem tailK_succ {x : Batch} {k : Nat} {r r0 : Rec} (h0 : x.recs[0]? = some r0) (hr : x.recs[k]? = some r) : tailK x (k + 1) = tailK x k ++ (if k = 0 then pvB r0.stamp else []) ++ prB r x.base r0.stamp := by
  rw [tailK_pos h0 (by omega), recsB_succ hr]
  by_cases hk : k = 0
  · subst hk
    simp [tailK_0, recsB]
  · rw [tailK_pos h0 (by omega), if_neg hk]
    simp
theorem bytes_ok (x : Batch) (cs : List Value) (G : Nat → Option Obj) (hx : BE G x cs) (hf : Form x) : FnO Try.prog 51 #[.agg cs.toArray] G [] (fun _ L' r => OwnB (bytesB x) L' r) := by
  obtain ⟨A, c, rfl, ⟨hc, hm, hA⟩, i1, i2, i3, i4, i5, i6, i7, i8⟩ := hx
  have hf0 := hf
  obtain ⟨⟨f1, f2, f3⟩, ⟨f4, f5, f6⟩, ⟨f7, f8, f9, f10⟩, f11, f12, f13⟩ := hf
  simp [rng] at f1 f2 f3 f4 f5 f6
  refine F51.fnO (by simp) noRegs_nil (go_of ?_)
  unfold c51 cellH
  have w1 : IntKind.i64.wrap (x.last - x.base) = x.last - x.base := by rw [w64_id] <;> omega
  have hin : ∀ n ∈ headN x, I64 n := by
    intro n hn
    simp [headN] at hn
    unfold I64 at *
    omega
  (intros; try refine go_st ?_); refine go_r 0 0 (by decide) ?_; (refine sJ c51r0.eq_1 ?_; try with_reducible exact True.intro)
  (intros; try refine go_st ?_); refine go_r 0 0 (by decide) ?_; (refine sJ c51r1.eq_1 ?_; try with_reducible exact True.intro)
  (intros; try refine go_st ?_); refine go_r 12 28 (by decide) ?_; (refine sJ2 c51r2.eq_1 @w1 ?_; try with_reducible exact True.intro)
  intro b0 hb0
  (refine sI ?_; try with_reducible exact True.intro)
  (intros; try refine go_st ?_)
  refine go_gx (gx_slv_at [] _ (by decide) (cells_i _ hin)) ?_
  rintro h' ⟨G1, rfl, hg1, A7, c7, hA7e, hl7, hm7, hA7⟩
  cases hA7e
  refine go_ghost (ghost_nil none 5 1) ?_
  refine go_loop (fun e h => ∃ (k : Nat) (G' : Nat → Option Obj) (u : Value) (zc : List Value), (k ≤ 7 ∧ Gle G1 G' ∧ Cells UE 1 (headB ((headN x).take k)) zc) ∧ e 30 = .int .i64 k ∧ e 29 = .int .i64 7 ∧ e 28 = .slice (some ⟨b0, 0, none⟩) 7 7 ∧ e 3 = u ∧ h.G = G' ∧ h.D = [] ∧ [.row u 5 1 (headB ((headN x).take k)).length zc, .reg 1 [.int .i64 x.base, .int .i64 x.last, .int .i64 x.src, .int .i64 x.epoch, .int .i64 x.pid, .int .i64 x.gen, .int .i64 x.seq, .bool x.txn, .int .i64 x.ctl, .slice A x.recs.length c]].Sublist h.L) (fun e h => 7 - iv (e 30)) ?_ ?_
  · exact ⟨0, G1, _, [], ⟨Nat.zero_le _, .refl _, .nil⟩, eE, by (refine sI ?_; try with_reducible exact True.intro); rfl, eE, eE, rfl, rfl, List.Sublist.refl _⟩
  · rintro e ⟨G', L, D⟩ ⟨k, G2, u, zc, ⟨hk, hgg, hcs⟩, e30, e29, e28, e3, hG, hD, hL⟩
    dsimp only at hG hD hL
    subst hG hD
    refine go_ghost (ghost_sub hL) ?_
    refine go_keep [3, 28, 29, 30] ?_
    (refine sJ4 @e3 @e28 @e29 @e30 ?_; try with_reducible exact True.intro)
    have hhl := headB_len ((headN x).take k)
    have hh7 : ((headN x).take k).length ≤ 7 := by simp [headN]; omega
    (intros; try refine go_st ?_); refine go_r 0 0 (by decide) ?_; (refine sJ c51r3.eq_1 ?_; try with_reducible exact True.intro)
    (intros; try refine go_st ?_); refine go_c ?_; (refine sI ?_; try with_reducible exact True.intro)
    refine gb (fun ht => ?_) (fun ht => ?_)
    · have hkl : k < 7 := by simp at ht; omega
      have hw3 := inc_i k 7 (by omega) (by unfold maxLen; omega)
      obtain ⟨n, hn⟩ : ∃ n, (headN x)[k]? = some n := ⟨(headN x)[k]'(by simp [headN]; omega), List.getElem?_eq_getElem _⟩
      have hsucc := headB_succ hn
      have hA7' := hA7.le hgg (E' := IE) fun _ _ h => h
      (repeat first | (with_reducible intro _) | refine go_skip ?_ | refine go_b ?_)
      (intros; try refine go_st ?_); refine go_r 32 34 (by decide) ?_; (refine sJ c51r4.eq_1 ?_; try with_reducible exact True.intro)
      refine hA7'.x_l1 hn rfl rfl ?_
      rintro a1 ha1 v ⟨hv, hni⟩
      cases hv
      (refine sI ?_; try with_reducible exact True.intro)
      (intros; try refine go_st ?_); refine go_r 34 37 (by decide) ?_; (refine sJ c51r5.eq_1 ?_; try with_reducible exact True.intro)
      refine callsH_gx F66.enters (gx_slv_at [] _ (by decide) hcs) ?_
      rintro h' ⟨G3, rfl, hg3, hv3⟩
      refine (RPutVar_ok _ n hni _ G3 hv3 (by omega) _ []).mono ?_
      rintro r h' ⟨G4, L', rfl, hg4, ys, hys, rfl⟩
      rw [← hsucc] at hys ⊢
      (refine sI ?_; try with_reducible exact True.intro)
      (intros; try refine go_st ?_); refine go_r 37 38 (by decide) ?_; (refine sJ2 c51r6.eq_1 @hw3 ?_; try with_reducible exact True.intro)
      (intros; try refine go_st ?_)
      refine go_l ⟨⟨k + 1, G4, _, ys, ⟨by omega, hgg.trans (hg3.trans hg4), hys⟩, eE, eE, eE, eE, rfl, rfl, List.Sublist.refl _⟩, ?_⟩
      (refine sI ?_; try with_reducible exact True.intro)
      omega
    · have hkl : k = 7 := by simp at ht; omega
      subst hkl
      rw [show (headN x).take 7 = headN x from rfl] at hcs hhl ⊢
      have hmx := form_recs hf0
      have hh8 : (headN x).length = 7 := rfl
      have hgg' := hg1.trans hgg
      refine go_exit ?_
      (refine sI ?_; try with_reducible exact True.intro)
      (intros; try refine go_st ?_); refine go_r 39 40 (by decide) ?_; (refine sJ c51r7.eq_1 ?_; try with_reducible exact True.intro)
      (repeat (with_reducible intro _)); try refine go_seq ?_
      have hctl : x.ctl = 0 ∨ x.ctl = 1 ∨ x.ctl = 2 := by
        rcases f13 with h | h
        · exact .inl h.1
        · exact .inr h.1
      refine go_cut (fun e h => ∃ n : Int, e 3 = u ∧ e 6 = .int .i64 n ∧ IntKind.u8.wrap n = ((markB x).toNat : Int) ∧ h = ⟨G', [.row u 5 1 (headB (headN x)).length zc, .reg 1 [.int .i64 x.base, .int .i64 x.last, .int .i64 x.src, .int .i64 x.epoch, .int .i64 x.pid, .int .i64 x.gen, .int .i64 x.seq, .bool x.txn, .int .i64 x.ctl, .slice A x.recs.length c]], []⟩) ?_ ?_
      · (intros; try refine go_st ?_); refine go_r 0 0 (by decide) ?_; (refine sJ c51r8.eq_1 ?_; try with_reducible exact True.intro)
        (intros; try refine go_st ?_); refine go_c ?_; (refine sI ?_; try with_reducible exact True.intro)
        refine gb (fun k1 => ?_) (fun k1 => ?_)
        · (intros; try refine go_st ?_); refine go_r 42 44 (by decide) ?_; (refine sJ c51r9.eq_1 ?_; try with_reducible exact True.intro)
          (intros; try refine go_st ?_)
          refine go_l ⟨IntKind.i64.wrap (x.ctl + 4), eE, eE, ?_, rfl⟩
          rw [mark_r hctl, markB, if_pos k1]
        · (intros; try refine go_st ?_)
          refine go_l ⟨x.ctl, eE, eE, ?_, rfl⟩
          rw [mark_0 hctl, markB, if_neg (by rw [k1]; simp)]
          rfl
      rintro e h ⟨nm, e3, e6, hnm, rfl⟩
      refine go_keep [3, 6] ?_
      (refine sJ2 @e3 @e6 ?_; try with_reducible exact True.intro)
      (intros; try refine go_st ?_); refine go_x _ (.cons _ (List.Sublist.refl _)) (by decide) ?_; (refine sJ2 c51r10.eq_1 @hnm ?_; try with_reducible exact True.intro)
      intro bk hbk
      refine ⟨grow_L (fun _ _ h => h) (.cons _ (.cons _ (List.Sublist.refl _))), ?_⟩
      (refine sI ?_; try with_reducible exact True.intro)
      refine app8 (L1 := []) (L2 := [_]) (x := markB x) rfl rfl hcs (by omega) fun A' c' zc' hzc => ?_
      (refine sI ?_; try with_reducible exact True.intro)
      refine ⟨grow_L (fun _ _ h => h) (.cons _ (.cons _ (List.Sublist.refl _))), ?_⟩
      (refine sI ?_; try with_reducible exact True.intro)
      refine callsH_gx F66.enters (gx_slv_at [_] _ (by decide) hzc) ?_
      rintro h' ⟨G4, rfl, hg4, hv4⟩
      refine (RPutVar_ok _ x.recs.length (by unfold I64; omega) _ G4 hv4 (by simp; omega) _ []).mono ?_
      rintro r h' ⟨G5, L', rfl, hg5, ys5, hys5, rfl⟩
      refine ⟨grow_L (hg4.trans hg5) (.cons _ (.cons _ (List.Sublist.refl _))), ?_⟩
      (refine sI ?_; try with_reducible exact True.intro)
      have hpl := pvB_len x.recs.length
      (repeat first | (with_reducible intro _) | refine go_seq ?_)
      refine go_ghost (ghost_sub (L' := [.row r 5 1 (headB (headN x) ++ [markB x] ++ pvB x.recs.length).length ys5, .reg 1 [.int .i64 x.base, .int .i64 x.last, .int .i64 x.src, .int .i64 x.epoch, .int .i64 x.pid, .int .i64 x.gen, .int .i64 x.seq, .bool x.txn, .int .i64 x.ctl, .slice A x.recs.length c]]) (.cons_cons _ (.cons _ (List.Sublist.refl _)))) ?_
      generalize hP : headB (headN x) ++ [markB x] ++ pvB x.recs.length = P at hys5 ⊢
      have hPl : P.length ≤ 90 := by rw [← hP]; simp; omega
      have hA5 := hA.le (hgg'.trans (hg4.trans hg5)) (E' := RR) fun _ _ h => h
      (intros; try refine go_st ?_); refine go_r 0 0 (by decide) ?_; (refine sJ c51r11.eq_1 ?_; try with_reducible exact True.intro)
      (intros; try refine go_st ?_)
      refine go_loop (fun e h => ∃ (k : Nat) (G' : Nat → Option Obj) (u : Value) (zc zs : List Value), (k ≤ x.recs.length ∧ Gle G5 G' ∧ Cells UE 1 (P ++ tailK x k) zc ∧ (tailK x k).length ≤ 179 * k) ∧ e 56 = .int .i64 k ∧ e 55 = .int .i64 x.recs.length ∧ e 54 = .slice A x.recs.length c ∧ e 3 = u ∧ h.G = G' ∧ h.D = [] ∧ [.row u 5 1 (P ++ tailK x k).length zc, .reg 1 [.int .i64 x.base, .int .i64 x.last, .int .i64 x.src, .int .i64 x.epoch, .int .i64 x.pid, .int .i64 x.gen, .int .i64 x.seq, .bool x.txn, .int .i64 x.ctl, .slice A x.recs.length c]].Sublist h.L) (fun e h => x.recs.length - iv (e 56)) ?_ ?_
      · exact ⟨0, G5, r, ys5, [], ⟨Nat.zero_le _, .refl _, by simpa [tailK_0] using hys5, by simp [tailK_0]⟩, eE, eE, eE, eE, rfl, rfl, by simp [tailK_0]⟩
      · rintro e ⟨G'', L, D⟩ ⟨k, G2, u2, zc2, -, ⟨hk, hgg2, hcs2, hrl⟩, e56, e55, e54, e3, hG, hD, hL⟩
        dsimp only at hG hD hL
        subst hG hD
        refine go_ghost (ghost_sub hL) ?_
        refine go_keep [3, 54, 55, 56] ?_
        (refine sJ4 @e3 @e54 @e55 @e56 ?_; try with_reducible exact True.intro)
        (intros; try refine go_st ?_); refine go_r 0 0 (by decide) ?_; (refine sJ c51r12.eq_1 ?_; try with_reducible exact True.intro)
        (intros; try refine go_st ?_); refine go_c ?_; (refine sI ?_; try with_reducible exact True.intro)
        refine gb (fun ht => ?_) (fun ht => ?_)
        · have hkl : k < x.recs.length := by simpa using ht
          have hw3 := inc_i k c (by omega) hm
          obtain ⟨r, hr⟩ : ∃ r, x.recs[k]? = some r := ⟨x.recs[k], List.getElem?_eq_getElem (by omega)⟩
          obtain ⟨r0, h0⟩ : ∃ r, x.recs[0]? = some r := ⟨x.recs[0], List.getElem?_eq_getElem (by omega)⟩
          have hsucc := tailK_succ h0 hr
          have hck0 := hmx.1 r0 (List.mem_of_getElem? h0)
          obtain ⟨⟨-, q0⟩, -, -⟩ := chk_small hck0
          simp [inO] at q0
          have hst : I64 r0.stamp := by unfold I64; omega
          have hpst := pvB_len r0.stamp
          have hckr := hmx.1 r (List.mem_of_getElem? hr)
          have hcs' := chk_small hckr
          have hplr := prB_len (base := x.base) (stamp := r0.stamp) hcs'.2.1 hcs'.2.2
          have hput : putR r x.base r0.stamp = (prB r x.base r0.stamp, 0) := by
            rw [putR, if_neg (by simp [hckr]), if_neg (by simp [inO, f1, q0])]
          have hAk := hA5.le hgg2 (E' := RR) fun _ _ h => h
          (repeat first | (with_reducible intro _) | refine go_skip ?_ | refine go_b ?_)
          (intros; try refine go_st ?_); refine go_r 58 61 (by decide) ?_; (refine sJ c51r13.eq_1 ?_; try with_reducible exact True.intro)
          refine hAk.x_ld hr rfl rfl ?_
          rintro a1 ha1 cs ⟨rfl, -⟩
          have hPut := RPut_ok r x.base r0.stamp
          unfold cellR at hPut ⊢
          (refine sI ?_; try with_reducible exact True.intro)
          (repeat (with_reducible intro _)); try refine go_seq ?_
          refine go_ghost (ghost_perm (.swap _ _ _)) ?_
          refine go_cut (fun e h => ∃ (u : Value) (zc : List Value) (G3 : Nat → Option Obj), e 56 = .int .i64 k ∧ e 55 = .int .i64 x.recs.length ∧ e 54 = .slice A x.recs.length c ∧ e 3 = u ∧ Cells UE 1 (P ++ tailK x k ++ (if k = 0 then pvB r0.stamp else [])) zc ∧ Gle G'' G3 ∧
            h = ⟨G3, [.row u 5 1 (P ++ tailK x k ++ (if k = 0 then pvB r0.stamp else [])).length zc, .reg 8 [.int .i64 r.off, .string r.key, .string r.val, .bool r.dead, .int .i64 r.stamp], .reg 1 [.int .i64 x.base, .int .i64 x.last, .int .i64 x.src, .int .i64 x.epoch, .int .i64 x.pid, .int .i64 x.gen, .int .i64 x.seq, .bool x.txn, .int .i64 x.ctl, .slice A x.recs.length c]], []⟩) ?_ ?_
          · (intros; try refine go_st ?_); refine go_r 61 62 (by decide) ?_; (refine sJ c51r14.eq_1 ?_; try with_reducible exact True.intro)
            (intros; try refine go_st ?_); refine go_c ?_; (refine sI ?_; try with_reducible exact True.intro)
            refine gb (fun k1 => ?_) (fun k1 => ?_)
            · have hk0 : k = 0 := by simpa using k1
              subst hk0
              obtain rfl : r = r0 := by rw [h0] at hr; cases hr; rfl
              (intros; try refine go_st ?_); refine go_r 63 67 (by decide) ?_; (refine sJ c51r15.eq_1 ?_; try with_reducible exact True.intro)
              refine callsH_gx F66.enters (gx_slv_at [] _ (by decide) hcs2) ?_
              rintro h' ⟨G6, rfl, hg6, hv6⟩
              refine (RPutVar_ok _ r.stamp hst _ G6 hv6 (by simp; omega) _ []).mono ?_
              rintro r h' ⟨G7, L', rfl, hg7, ys7, hys7, rfl⟩
              (refine sI ?_; try with_reducible exact True.intro)
              (intros; try refine go_st ?_)
              exact go_l ⟨_, ys7, G7, eE, eE, eE, eE, hys7, hg6.trans hg7, rfl⟩
            · have hk0 : ¬ k = 0 := by simpa using k1
              rw [if_neg hk0, List.append_nil]
              (intros; try refine go_st ?_)
              exact go_l ⟨_, zc2, G'', eE, eE, eE, eE, hcs2, .refl _, rfl⟩
          rintro e h ⟨u3, zc3, G3, e56, e55, e54, e3, hcs3, hg3, rfl⟩
          refine go_keep [3, 54, 55, 56] ?_
          (refine sJ4 @e3 @e54 @e55 @e56 ?_; try with_reducible exact True.intro)
          have hA3 := hAk.le hg3 (E' := RR) fun _ _ h => h
          (intros; try refine go_st ?_); refine go_x _ (.cons _ (List.Sublist.refl _)) (by decide) ?_; (refine sJ c51r16.eq_1 ?_; try with_reducible exact True.intro)
          refine hA3.y_lf h0 rfl rfl (fun cs h => by rw [h.1]; rfl) fun a ha => ?_
          (refine sI ?_; try with_reducible exact True.intro)
          refine (hPut G3 _ []).mono ?_
          rintro v h' ⟨G8, L', rfl, hg8, w, rfl, ys8, hys8, rfl⟩
          rw [hput] at hys8 ⊢
          refine ⟨grow_L hg8 (.cons _ (.cons _ (List.Sublist.refl _))), ?_⟩
          (refine sI ?_; try with_reducible exact True.intro)
          (repeat first | (with_reducible intro _) | refine go_seq ?_)
          refine go_gx (gx_slv_at [] _ (by decide) hys8) ?_
          rintro h' ⟨G9, rfl, hg9, hv9⟩
          (intros; try refine go_st ?_); refine go_r 79 82 (by decide) ?_; (refine sJ c51r17.eq_1 ?_; try with_reducible exact True.intro)
          refine apX_v (L1 := []) (.inl rfl) hv9 rfl UE1 (by simp; unfold maxLen; split <;> simp <;> omega) fun ys' A' c' hc' => ?_
          have hh := hcs3.app hc'
          have hassoc : P ++ tailK x k ++ (if k = 0 then pvB r0.stamp else []) ++ prB r x.base r0.stamp = P ++ tailK x (k + 1) := by rw [hsucc]; simp
          rw [hassoc] at hh
          rw [← List.length_append, hassoc]
          (refine sI ?_; try with_reducible exact True.intro)
          (intros; try refine go_st ?_); refine go_r 82 83 (by decide) ?_; (refine sJ2 c51r18.eq_1 @hw3 ?_; try with_reducible exact True.intro)
          (intros; try refine go_st ?_)
          refine go_l ⟨⟨k + 1, G9, _, _, [], ⟨by omega, hgg2.trans (hg3.trans (hg8.trans hg9)), hh, by rw [hsucc]; simp only [List.length_append]; split <;> (try simp only [List.length_nil]) <;> omega⟩, eE, eE, eE, eE, rfl, rfl, .cons_cons _ (.cons _ (List.Sublist.refl _))⟩, ?_⟩
          (refine sI ?_; try with_reducible exact True.intro)
          omega
        · have hkl : k = x.recs.length := by simp at ht; omega
          subst hkl
          rw [tailK_n] at hcs2 hrl
          have hbody : bodyB x = P ++ tailB x := by rw [bodyB, ← hP]
          refine go_exit ?_
          (refine sI ?_; try with_reducible exact True.intro)
          rw [tailK_n, ← hbody]
          rw [← hbody] at hcs2
          have hbl : (bodyB x).length ≤ 5000 := by rw [hbody]; simp; omega
          (intros; try refine go_st ?_); refine go_r 83 85 (by decide) ?_; (refine sJ c51r19.eq_1 ?_; try with_reducible exact True.intro)
          refine callsH_gx F68.enters (gx_slv_at [] _ (by decide) hcs2) ?_
          rintro h' ⟨G7, rfl, hg7, hv7⟩
          refine (RSeal_ok _ _ G7 hv7 (by omega) _ []).mono ?_
          rintro r h' ⟨G8, L', rfl, hg8, ys, hys, rfl⟩
          (refine sI ?_; try with_reducible exact True.intro)
          intro _
          have hsl := sealB_len (bodyB x)
          refine go_gx (gx_slv_at [] _ (by decide) hys) ?_
          rintro h' ⟨G9, rfl, hg9, hv9⟩
          obtain ⟨As, cs', rfl, -, -, -⟩ := id hv9
          have hwl : IntKind.u64.wrap ((sealB (bodyB x)).length : Int) = ((sealB (bodyB x)).length : Int) := by rw [IntKind.wrap_u64]; omega
          (intros; try refine go_st ?_); refine go_r 85 91 (by decide) ?_; (refine sJ2 c51r20.eq_1 @hwl ?_; try with_reducible exact True.intro)
          refine (ROPut_ok [] (sealB (bodyB x)).length 4 (by omega) (by omega) _ G9 SB.nil (by simp) _ []).mono ?_
          rintro r h' ⟨G10, L', rfl, hg10, ys2, hys2, rfl⟩
          simp only [List.nil_append] at hys2 ⊢
          (refine sI ?_; try with_reducible exact True.intro)
          refine apX_v (L1 := []) (.inl rfl) (SB.le hv9 hg10) rfl UE1 (by rw [putN_len]; unfold maxLen; omega) fun ys' A' c' hc' => ?_
          have hh := hys2.app hc'
          (refine sI ?_; try with_reducible exact True.intro)
          (intros; try refine go_st ?_)
          refine go_ret (retQ_o _ rfl (.cons_cons _ (List.nil_sublist _)) (noRegs_row noRegs_nil) ?_)
          rw [← List.length_append]
          exact ⟨_, hh, rfl⟩
end Go.Proofs.Ytfhheomeebejnaa

/- Bytes, part 15 of a proof: whether a batch may be, how many bytes it has, and which. No condition. -/
set_option linter.unusedSimpArgs false
set_option linter.unusedVariables false
namespace Go.Proofs.Ytfhheomeebejnaa
open Go Go.Kx
theorem F38 : Fun Try.prog 38 14 v38 c38 o38 := Fun.mk' Try.func38 Try.ntmps38 (by kernel_rfl) (by kernel_rfl) s38 q38
theorem F41 : Fun Try.prog 41 12 v41 c41 o41 := Fun.mk' Try.func41 Try.ntmps41 (by kernel_rfl) (by kernel_rfl) s41 q41
theorem F26 : Fun Try.prog 26 11 v26 c26 o26 := Fun.mk' Try.func26 Try.ntmps26 (by kernel_rfl) (by kernel_rfl) s26 q26
theorem F50 : Fun Try.prog 50 10 v50 c50 o50 := Fun.mk' Try.func50 Try.ntmps50 (by kernel_rfl) (by kernel_rfl) s50 q50
/-- Why a batch may not be. -/
def errB (b : Batch) : Int := if Form b then (if (bytesB b).length ≤ 2048 then 0 else 2) else 1
def putB (b : Batch) : List UInt8 × Int := if errB b = 0 then (bytesB b, 0) else ([], errB b)
theorem errB_n {b : Batch} (h : ¬ Form b) : errB b = 1 := if_neg h
theorem errB_2 {b : Batch} (h : Form b) (h2 : ¬ (bytesB b).length ≤ 2048) : errB b = 2 := by rw [errB, if_pos h, if_neg h2]
theorem errB_0 {b : Batch} (h : Form b) (h2 : (bytesB b).length ≤ 2048) : errB b = 0 := by rw [errB, if_pos h, if_pos h2]
theorem putB_0 {b : Batch} (h : errB b = 0) : putB b = (bytesB b, 0) := if_pos h
theorem putB_n {b : Batch} (h : ¬ errB b = 0) : putB b = ([], errB b) := if_neg h
theorem errB_ok {b : Batch} (h : errB b = 0) : Form b ∧ (bytesB b).length ≤ 2048 := by
  unfold errB at h
  split at h
  · rename_i h1
    split at h
    · rename_i h2; exact ⟨h1, h2⟩
    · cases h
  · cases h
theorem bodyB_len {b : Batch} (hf : Form b) : (bodyB b).length ≤ 4900 := by
  obtain ⟨h1, h2⟩ := form_recs hf
  have a1 := headB_len (headN b)
  have a2 : (headN b).length = 7 := rfl
  have a3 := pvB_len b.recs.length
  have a4 : (tailB b).length ≤ 10 + 169 * b.recs.length := by
    cases hr : b.recs with
    | nil => simp [tailB, hr]
    | cons r rs =>
      have a5 := pvB_len r.stamp
      have a6 : ∀ (l : List Rec) (st : Int), (∀ r ∈ l, chkR r = 0) → (recsB b.base st l).length ≤ 169 * l.length := fun l => by
        induction l with
        | nil => simp [recsB]
        | cons q l ih =>
          intro st h
          have e1 := ih st fun r hr => h r (.tail _ hr)
          have e2 := chk_small (h q (.head _))
          have e3 := prB_len (base := b.base) (stamp := st) e2.2.1 e2.2.2
          simp [recsB] at e1 ⊢
          omega
      have a7 := a6 (r :: rs) r.stamp (by rw [← hr]; exact h1)
      simp only [tailB, hr, List.length_append]
      omega
  simp only [bodyB, List.length_append, List.length_cons, List.length_nil]
  omega
theorem bytesB_len (b : Batch) : (bytesB b).length = (bodyB b).length + 8 := by
  simp only [bytesB, List.length_append, putN_len, sealB_len]
  omega
theorem BPut_ok (x : Batch) (cs : List Value) (G : Nat → Option Obj) (hx : BE G x cs) : FnO Try.prog 38 #[.agg cs.toArray] G [] (fun _ L' r => OwnE (putB x) L' r) := by
  have h1 := formed_ok x cs G hx
  have h2 := write_ok x cs G hx
  obtain ⟨A, c, rfl, -⟩ := hx
  refine F38.fnO (by simp) noRegs_nil (go_of ?_)
  unfold c38
  unfold cellH at h1 h2 ⊢
  (intros; try refine go_st ?_); refine go_r 0 0 (by decide) ?_; (refine sJ c38r0.eq_1 ?_; try with_reducible exact True.intro)
  (intros; try refine go_st ?_); refine go_r 5 7 (by decide) ?_; (refine sJ c38r1.eq_1 ?_; try with_reducible exact True.intro)
  refine (h1 _ _).mono ?_; rintro _ _ ⟨rfl, rfl⟩; (refine sI ?_; try with_reducible exact True.intro)
  (intros; try refine go_st ?_); refine go_c ?_; (refine sI ?_; try with_reducible exact True.intro)
  refine gb (fun k1 => ?_) (fun k1 => ?_)
  · have k1 : ¬ Form x := by simpa using k1
    (intros; try refine go_st ?_); refine go_r 0 0 (by decide) ?_; (refine sJ c38r2.eq_1 ?_; try with_reducible exact True.intro)
    (intros; try refine go_st ?_)
    refine go_ghost (ghost_nil none 5 1) ?_
    refine go_ret (retQ_o _ rfl (.cons_cons _ (List.nil_sublist _)) (noRegs_row noRegs_nil) ?_)
    have he := errB_n k1
    rw [putB_n (by rw [he]; decide), he]
    exact ⟨_, rfl, [], .nil, rfl⟩
  have k1 : Form x := by simpa using k1
  have hbl := bodyB_len k1
  have hwl := bytesB_len x
  (repeat first | (with_reducible intro _) | refine go_skip ?_ | refine go_b ?_)
  (intros; try refine go_st ?_); refine go_r 8 10 (by decide) ?_; (refine sJ c38r3.eq_1 ?_; try with_reducible exact True.intro)
  refine (h2 k1 _ []).mono ?_
  rintro r h' ⟨G1, L', rfl, hg1, ys, hys, rfl⟩
  (refine sI ?_; try with_reducible exact True.intro)
  intro _
  (repeat (with_reducible intro _)); try refine go_seq ?_
  refine go_gx (gx_knowS (.head _)) ?_
  rintro h' ⟨rfl, A2, c2, rfl, hc2, hm2⟩
  (intros; try refine go_st ?_); refine go_r 10 12 (by decide) ?_; (refine sJ c38r4.eq_1 ?_; try with_reducible exact True.intro)
  (intros; try refine go_st ?_); refine go_c ?_; (refine sI ?_; try with_reducible exact True.intro)
  refine gb (fun k2 => ?_) (fun k2 => ?_)
  · have k2 : ¬ (bytesB x).length ≤ 2048 := by have := of_decide_eq_true k2; omega
    (intros; try refine go_st ?_); refine go_r 0 0 (by decide) ?_; (refine sJ c38r5.eq_1 ?_; try with_reducible exact True.intro)
    (intros; try refine go_st ?_)
    refine go_ghost (ghost_nil none 5 1) ?_
    refine go_ret (retQ_o _ rfl (.cons_cons _ (List.nil_sublist _)) (noRegs_row noRegs_nil) ?_)
    have he := errB_2 k1 k2
    rw [putB_n (by rw [he]; decide), he]
    exact ⟨_, rfl, [], .nil, rfl⟩
  · have k2 : (bytesB x).length ≤ 2048 := by have := of_decide_eq_false k2; omega
    (repeat first | (with_reducible intro _) | refine go_skip ?_ | refine go_b ?_)
    (intros; try refine go_st ?_); refine go_r 13 14 (by decide) ?_; (refine sJ c38r6.eq_1 ?_; try with_reducible exact True.intro)
    (intros; try refine go_st ?_)
    refine go_ret (retQ_o _ rfl (.cons_cons _ (List.nil_sublist _)) (noRegs_row noRegs_nil) ?_)
    rw [putB_0 (errB_0 k1 k2)]
    exact ⟨_, rfl, ys, hys, rfl⟩
theorem RBCheck_ok (x : Batch) (cs : List Value) (G : Nat → Option Obj) (hx : BE G x cs) : FnS Try.prog 50 #[.agg cs.toArray] G (.int .i64 (errB x)) := by
  have h1 := form_ok x cs G hx
  have h2 := bytes_ok x cs G hx
  obtain ⟨A, c, rfl, -⟩ := hx
  refine F50.fnS (by simp) (go_of ?_)
  unfold c50
  unfold cellH at h1 h2 ⊢
  (intros; try refine go_st ?_); refine go_r 0 0 (by decide) ?_; (refine sJ c50r0.eq_1 ?_; try with_reducible exact True.intro)
  (intros; try refine go_st ?_); refine go_r 3 5 (by decide) ?_; (refine sJ c50r1.eq_1 ?_; try with_reducible exact True.intro)
  refine (h1 _ _).mono ?_; rintro _ _ ⟨rfl, rfl⟩; (refine sI ?_; try with_reducible exact True.intro)
  (intros; try refine go_st ?_); refine go_c ?_; (refine sI ?_; try with_reducible exact True.intro)
  refine gb (fun k1 => ?_) (fun k1 => ?_)
  · have k1 : ¬ Form x := by simpa using k1
    (intros; try refine go_st ?_); refine go_r 0 0 (by decide) ?_; (refine sJ c50r2.eq_1 ?_; try with_reducible exact True.intro)
    (intros; try refine go_st ?_)
    refine go_ret (retQ_v rfl ?_); simp only [push_cast, Nat.reduceBEq]
    rw [errB_n k1]
  have k1 : Form x := by simpa using k1
  (repeat first | (with_reducible intro _) | refine go_skip ?_ | refine go_b ?_)
  (intros; try refine go_st ?_); refine go_r 6 9 (by decide) ?_; (refine sJ c50r3.eq_1 ?_; try with_reducible exact True.intro)
  refine (ownL_d (by decide) (h2 k1) _ []).mono ?_
  rintro r h' ⟨G1, rfl, hg1, A2, c2, rfl, hc2, hm2, hA2⟩
  (refine sI ?_; try with_reducible exact True.intro)
  (intros; try refine go_st ?_); refine go_c ?_; (refine sI ?_; try with_reducible exact True.intro)
  refine gb (fun k2 => ?_) (fun k2 => ?_)
  · have k2 : ¬ (bytesB x).length ≤ 2048 := by have := of_decide_eq_true k2; omega
    (intros; try refine go_st ?_); refine go_r 0 0 (by decide) ?_; (refine sJ c50r4.eq_1 ?_; try with_reducible exact True.intro)
    (intros; try refine go_st ?_)
    refine go_ret (retQ_v rfl ?_); simp only [push_cast, Nat.reduceBEq]
    rw [errB_2 k1 k2]
  · have k2 : (bytesB x).length ≤ 2048 := by have := of_decide_eq_false k2; omega
    (repeat first | (with_reducible intro _) | refine go_skip ?_ | refine go_b ?_)
    (intros; try refine go_st ?_); refine go_r 0 0 (by decide) ?_; (refine sJ c50r5.eq_1 ?_; try with_reducible exact True.intro)
    (intros; try refine go_st ?_)
    refine go_ret (retQ_v rfl ?_); simp only [push_cast, Nat.reduceBEq]
    rw [errB_0 k1 k2]
theorem RBPut_ok (x : Batch) (cs : List Value) (G : Nat → Option Obj) (hx : BE G x cs) : FnO Try.prog 41 #[.agg cs.toArray] G [] (fun _ L' r => OwnE (putB x) L' r) := by
  have h1 := RBCheck_ok x cs G hx
  have h2 := bytes_ok x cs G hx
  obtain ⟨A, c, rfl, -⟩ := hx
  refine F41.fnO (by simp) noRegs_nil (go_of ?_)
  unfold c41
  unfold cellH at h1 h2 ⊢
  (intros; try refine go_st ?_); refine go_r 0 0 (by decide) ?_; (refine sJ c41r0.eq_1 ?_; try with_reducible exact True.intro)
  (intros; try refine go_st ?_); refine go_r 5 7 (by decide) ?_; (refine sJ c41r1.eq_1 ?_; try with_reducible exact True.intro)
  refine (h1 _ _).mono ?_; rintro _ _ ⟨rfl, rfl⟩; (refine sI ?_; try with_reducible exact True.intro)
  (intros; try refine go_st ?_); refine go_r 7 8 (by decide) ?_; (refine sJ c41r2.eq_1 ?_; try with_reducible exact True.intro)
  (intros; try refine go_st ?_); refine go_c ?_; (refine sI ?_; try with_reducible exact True.intro)
  refine gb (fun k1 => ?_) (fun k1 => ?_)
  · have k1 : ¬ errB x = 0 := of_decide_eq_true k1
    (intros; try refine go_st ?_); refine go_r 9 10 (by decide) ?_; (refine sJ c41r3.eq_1 ?_; try with_reducible exact True.intro)
    (intros; try refine go_st ?_)
    refine go_ghost (ghost_nil none 5 1) ?_
    refine go_ret (retQ_o _ rfl (.cons_cons _ (List.nil_sublist _)) (noRegs_row noRegs_nil) ?_)
    rw [putB_n k1]
    exact ⟨_, rfl, [], .nil, rfl⟩
  have k1 : errB x = 0 := by simpa using k1
  (repeat first | (with_reducible intro _) | refine go_skip ?_ | refine go_b ?_)
  (intros; try refine go_st ?_); refine go_r 10 12 (by decide) ?_; (refine sJ c41r4.eq_1 ?_; try with_reducible exact True.intro)
  refine (h2 (errB_ok k1).1 _ []).mono ?_
  rintro r h' ⟨G1, L', rfl, hg1, ys, hys, rfl⟩
  (refine sI ?_; try with_reducible exact True.intro)
  (intros; try refine go_st ?_)
  refine go_ret (retQ_o _ rfl (.cons_cons _ (List.nil_sublist _)) (noRegs_row noRegs_nil) ?_)
  rw [putB_0 k1]
  exact ⟨_, rfl, ys, hys, rfl⟩
theorem putB_e (x : Batch) : (putB x).2 = errB x := by
  unfold putB
  split
  · rename_i h; exact h.symm
  · rfl
theorem BCheck_ok (x : Batch) (cs : List Value) (G : Nat → Option Obj) (hx : BE G x cs) : FnS Try.prog 26 #[.agg cs.toArray] G (.int .i64 (errB x)) := by
  have h1 := BPut_ok x cs G hx
  obtain ⟨A, c, rfl, -⟩ := hx
  refine F26.fnS (by simp) (go_of ?_)
  unfold c26
  unfold cellH at h1 ⊢
  (intros; try refine go_st ?_); refine go_r 0 0 (by decide) ?_; (refine sJ c26r0.eq_1 ?_; try with_reducible exact True.intro)
  (intros; try refine go_st ?_); refine go_r 5 10 (by decide) ?_; (refine sJ c26r1.eq_1 ?_; try with_reducible exact True.intro)
  refine (h1 _ []).mono ?_
  rintro r h' ⟨G1, L', rfl, hg1, u, rfl, ys, hys, rfl⟩
  (refine sI ?_; try with_reducible exact True.intro)
  (intros; try refine go_st ?_); refine go_r 10 11 (by decide) ?_; (refine sJ c26r2.eq_1 ?_; try with_reducible exact True.intro)
  (intros; try refine go_st ?_)
  refine go_ret (retQ_v rfl ?_); simp only [push_cast, Nat.reduceBEq]
  rw [putB_e]
end Go.Proofs.Ytfhheomeebejnaa

/- Bytes, part 16 of a proof: what is the same. No condition. -/
set_option linter.unusedSimpArgs false
set_option linter.unusedVariables false
namespace Go.Proofs.Ytfhheomeebejnaa
open Go Go.Kx
theorem F19 : Fun Try.prog 19 10 v19 c19 o19 := Fun.mk' Try.func19 Try.ntmps19 (by kernel_rfl) (by kernel_rfl) s19 q19
theorem beq_dec {α : Type} [BEq α] [LawfulBEq α] [DecidableEq α] (a b : α) : (a == b) = decide (a = b) := by by_cases h : a = b <;> simp [h]
theorem strAt_b {G : Nat → Option Obj} {v : Value} {l : List UInt8} (hl : SB G v l) {h : H} (hG : h.G = G) : StrAt h v ⟨l.toArray⟩ := by
  obtain ⟨G', L, D⟩ := h
  dsimp only at hG
  subst hG
  obtain ⟨A, c, rfl, hc, hm, hA⟩ := hl
  cases A with
  | none =>
    match l, hA with
    | [], _ => exact .inl ⟨c, rfl, rfl⟩
    | x :: xs, hA => obtain ⟨a, _, ha, _⟩ := hA 0 x rfl; cases ha
  | some a =>
    refine .inr ⟨a, c, rfl, fun j u hu => ?_⟩
    rw [byteCells_b] at hu
    simp [cellB] at hu
    obtain ⟨x, hx, rfl⟩ := hu
    obtain ⟨a', cs, ha, h1, h2, h3⟩ := hA j x hx
    cases ha
    have := h3 0 (.int .u8 (x.toNat : Int)) (by rw [h2]; rfl)
    simp at this
    exact .g this
theorem seq_b (a b : List UInt8) : binV .eql (.string ⟨a.toArray⟩) (.string ⟨b.toArray⟩) = some (.bool (decide (a = b))) := by
  have h : binV .eql (.string ⟨a.toArray⟩) (.string ⟨b.toArray⟩) = some (.bool ((ByteArray.mk a.toArray).toList == (ByteArray.mk b.toArray).toList)) := rfl
  rw [h, ByteArray.toList_mk, ByteArray.toList_mk, beq_dec]
theorem BSame_ok (l m : List UInt8) (v u : Value) (G : Nat → Option Obj) (hl : SB G v l) (hm : SB G u m) : FnS Try.prog 19 #[v, u] G (.bool (decide (l = m))) := by
  refine F19.fnS (by simp) (go_of ?_)
  unfold c19
  (intros; try refine go_st ?_); refine go_r 0 0 (by decide) ?_; (refine sJ c19r0.eq_1 ?_; try with_reducible exact True.intro)
  (intros; try refine go_st ?_); refine go_r 5 10 (by decide) ?_; (refine sJ c19r1.eq_1 ?_; try with_reducible exact True.intro)
  refine ⟨_, strAt_b hl rfl, ?_⟩
  (refine sI ?_; try with_reducible exact True.intro)
  refine ⟨_, strAt_b hm rfl, ?_⟩
  (refine sJ @seq_b ?_; try with_reducible exact True.intro)
  (intros; try refine go_st ?_)
  refine go_ret (retQ_v rfl ?_); simp only [push_cast, Nat.reduceBEq]
instance decRec (a b : Rec) : Decidable (a = b) := decidable_of_iff (a.off = b.off ∧ a.key = b.key ∧ a.val = b.val ∧ a.dead = b.dead ∧ a.stamp = b.stamp) (by cases a; cases b; simp)
instance decBatch (a b : Batch) : Decidable (a = b) := decidable_of_iff (a.base = b.base ∧ a.last = b.last ∧ a.src = b.src ∧ a.epoch = b.epoch ∧ a.pid = b.pid ∧ a.gen = b.gen ∧ a.seq = b.seq ∧ a.txn = b.txn ∧ a.ctl = b.ctl ∧ a.recs = b.recs) (by cases a; cases b; simp)
theorem take_succ_eq {α : Type} {a b : List α} {k : Nat} {x y : α} (h : a.take k = b.take k) (hx : a[k]? = some x) (hy : b[k]? = some y) (hxy : x = y) : a.take (k + 1) = b.take (k + 1) := by
  have h1 := List.getElem?_eq_some_iff.1 hx
  have h2 := List.getElem?_eq_some_iff.1 hy
  rw [List.take_succ_eq_append_getElem h1.1, List.take_succ_eq_append_getElem h2.1, h, h1.2, h2.2, hxy]
theorem BE.recs {G : Nat → Option Obj} {x : Batch} {cs : List Value} (h : BE G x cs) : ∃ A c, cs = cellH x (.slice A x.recs.length c) ∧ SlV G RR 5 (.slice A x.recs.length c) x.recs := by
  obtain ⟨A, c, h1, ⟨h2, h3, h4⟩, -⟩ := h
  exact ⟨A, c, h1, A, c, rfl, h2, h3, h4⟩
end Go.Proofs.Ytfhheomeebejnaa

/- Bytes, part 17 of a proof: batches that are short; the example. No condition. -/
set_option linter.unusedSimpArgs false
set_option linter.unusedVariables false
namespace Go.Proofs.Ytfhheomeebejnaa
open Go Go.Kx
theorem F14 : Fun Try.prog 14 29 v14 c14 o14 := Fun.mk' Try.func14 Try.ntmps14 (by kernel_rfl) (by kernel_rfl) s14 q14
theorem Few_ok (x : Batch) (cs : List Value) (G : Nat → Option Obj) (hx : BE G x cs) : FnE Try.prog 14 #[.agg cs.toArray] G (fun r => ∃ b, r = .bool b ∧ (b = true → x.recs.length ≤ 100)) := by
  obtain ⟨A, c, rfl, ⟨hc, hm, hA⟩, -⟩ := hx
  refine F14.fnE (by simp) (go_of ?_)
  unfold c14 cellH
  (intros; try refine go_st ?_); refine go_r 0 0 (by decide) ?_; (refine sJ c14r0.eq_1 ?_; try with_reducible exact True.intro)
  (intros; try refine go_st ?_); refine go_r 0 0 (by decide) ?_; (refine sJ c14r1.eq_1 ?_; try with_reducible exact True.intro)
  (intros; try refine go_st ?_); refine go_r 0 0 (by decide) ?_; (refine sJ c14r2.eq_1 ?_; try with_reducible exact True.intro)
  (intros; try refine go_st ?_)
  refine go_loop (fun e h => ∃ (k : Nat) (n : Int), (k ≤ x.recs.length) ∧ e 9 = .int .i64 k ∧ e 8 = .int .i64 x.recs.length ∧ e 7 = .slice A x.recs.length c ∧ e 3 = .int .i64 n ∧ h.G = G ∧ h.D = [] ∧ [.reg 1 [.int .i64 x.base, .int .i64 x.last, .int .i64 x.src, .int .i64 x.epoch, .int .i64 x.pid, .int .i64 x.gen, .int .i64 x.seq, .bool x.txn, .int .i64 x.ctl, .slice A x.recs.length c]].Sublist h.L) (fun e h => x.recs.length - iv (e 9)) ?_ ?_
  · exact ⟨0, 0, Nat.zero_le _, eE, eE, eE, eE, rfl, rfl, List.Sublist.refl _⟩
  · rintro e ⟨G', L, D⟩ ⟨k, n, hk, e9, e8, e7, e3, hG, hD, hL⟩
    dsimp only at hG hD hL
    subst hG hD
    refine go_ghost (ghost_sub hL) ?_
    refine go_keep [3, 7, 8, 9] ?_
    (refine sJ4 @e3 @e7 @e8 @e9 ?_; try with_reducible exact True.intro)
    (intros; try refine go_st ?_); refine go_r 0 0 (by decide) ?_; (refine sJ c14r3.eq_1 ?_; try with_reducible exact True.intro)
    (intros; try refine go_st ?_); refine go_c ?_; (refine sI ?_; try with_reducible exact True.intro)
    refine gb (fun ht => ?_) (fun ht => ?_)
    · have hkl : k < x.recs.length := by simpa using ht
      have hw3 := inc_i k c (by omega) hm
      obtain ⟨r, hr⟩ : ∃ r, x.recs[k]? = some r := ⟨x.recs[k], List.getElem?_eq_getElem (by omega)⟩
      (repeat first | (with_reducible intro _) | refine go_skip ?_ | refine go_b ?_)
      (intros; try refine go_st ?_); refine go_r 11 13 (by decide) ?_; (refine sJ c14r4.eq_1 ?_; try with_reducible exact True.intro)
      refine hA.x_ld hr rfl rfl ?_
      rintro a1 ha1 cs ⟨rfl, ⟨j1, j2⟩, j3, j4⟩
      unfold cellR
      (refine sI ?_; try with_reducible exact True.intro)
      (intros; try refine go_st ?_); refine go_r 13 22 (by decide) ?_; (refine sJ c14r5.eq_1 ?_; try with_reducible exact True.intro)
      generalize IntKind.i64.wrap _ = m2
      (intros; try refine go_st ?_); refine go_r 22 23 (by decide) ?_; (refine sJ c14r6.eq_1 ?_; try with_reducible exact True.intro)
      (intros; try refine go_st ?_); refine go_c ?_; (refine sI ?_; try with_reducible exact True.intro)
      refine gb (fun h1 => ?_) (fun h1 => ?_)
      · (intros; try refine go_st ?_); refine go_r 0 0 (by decide) ?_; (refine sJ c14r7.eq_1 ?_; try with_reducible exact True.intro)
        (intros; try refine go_st ?_)
        refine go_ret (retQ_v rfl ?_); simp only [push_cast, Nat.reduceBEq]
        exact ⟨false, rfl, fun h => by cases h⟩
      · have h1 := of_decide_eq_false h1
        (repeat first | (with_reducible intro _) | refine go_skip ?_ | refine go_b ?_)
        (intros; try refine go_st ?_); refine go_r 24 25 (by decide) ?_; (refine sJ2 c14r8.eq_1 @hw3 ?_; try with_reducible exact True.intro)
        (intros; try refine go_st ?_)
        refine go_l ⟨⟨k + 1, m2, by omega, eE, eE, eE, eE, rfl, rfl, .cons _ (List.Sublist.refl _)⟩, ?_⟩
        (refine sI ?_; try with_reducible exact True.intro)
        omega
    · refine go_exit ?_
      (refine sI ?_; try with_reducible exact True.intro)
      (intros; try refine go_st ?_); refine go_r 26 29 (by decide) ?_; (refine sJ c14r9.eq_1 ?_; try with_reducible exact True.intro)
      (intros; try refine go_st ?_)
      refine go_ret (retQ_v rfl ?_); simp only [push_cast, Nat.reduceBEq]
      exact ⟨_, rfl, fun h => by have := of_decide_eq_true h; omega⟩
instance decI64 (n : Int) : Decidable (I64 n) := by
  unfold I64
  infer_instance
end Go.Proofs.Ytfhheomeebejnaa

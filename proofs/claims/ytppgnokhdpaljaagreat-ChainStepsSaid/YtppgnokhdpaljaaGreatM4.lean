/- Parts of a proof, 16 texts in one file. No condition. -/
import Derived.Laws.Strings
import Derived.Test.YtppgnokhdpaljaaGreatM1
import Derived.Test.YtppgnokhdpaljaaGreatM2
import Derived.Test.YtppgnokhdpaljaaGreatM3
set_option linter.unusedSimpArgs false
set_option linter.unusedVariables false
namespace Go.Proofs.YtppgnokhdpaljaaGreat
open Go Go.Kx
theorem F109 : Fun Tryz.prog 109 31 v109 c109 o109 := Fun.mk' Tryz.func109 Tryz.ntmps109 (by kernel_rfl) (by kernel_rfl) s109 q109
theorem F97 : Fun Tryz.prog 97 36 v97 c97 o97 := Fun.mk' Tryz.func97 Tryz.ntmps97 (by kernel_rfl) (by kernel_rfl) s97 q97
def zig (n : Int) : Nat := if 0 ≤ n then (2 * n).toNat else (-2 * n - 1).toNat
def vnat : Nat → Nat → List UInt8
 | 0, z => [UInt8.ofNat z]
 | f + 1, z => if z < 128 then [UInt8.ofNat z] else UInt8.ofNat (128 + z % 128) :: vnat f (z / 128)
def pvB (n : Int) : List UInt8 := vnat 9 (zig n)
theorem vnat_len : ∀ f z, (vnat f z).length ≤ f + 1 ∧ 1 ≤ (vnat f z).length
 | 0, z => by simp [vnat]
 | f + 1, z => by
  unfold vnat
  split
  ·simp
  ·have := vnat_len f (z / 128)
   simp
   omega
theorem pvB_len (n : Int) : (pvB n).length ≤ 10 := (vnat_len 9 _).1
theorem zig_lt {n : Int} (h : I64 n) : zig n < 18446744073709551616 := by
 unfold zig I64 at *
 split <;> omega
theorem vnat_lt {f z : Nat} (h : z < 128) : vnat f z = [UInt8.ofNat z] := by
 cases f with
 | zero => rfl
 | succ f => exact if_pos h
def Puts (p : List UInt8) (z0 : Nat) (zs : List UInt8) (z : Nat) : Prop := ∃ f, f ≤ 9 ∧ zs.length + f = p.length + 9 ∧ z < 2 * 128 ^ f ∧ zs ++ vnat f z = p ++ vnat 9 z0
theorem puts_zero (p : List UInt8) {z0 : Nat} (h : z0 < 18446744073709551616) : Puts p z0 p z0 := ⟨9, Nat.le_refl _, rfl, by omega, rfl⟩
theorem puts_end {p zs : List UInt8} {z0 z : Nat} (h : Puts p z0 zs z) (hz : z < 128) : zs ++ [UInt8.ofNat z] = p ++ vnat 9 z0 := by
 obtain ⟨f, _, _, _, h⟩ := h
 rw [← h, vnat_lt hz]
theorem puts_more {p zs : List UInt8} {z0 z : Nat} (h : Puts p z0 zs z) (hz : ¬ z < 128) : Puts p z0 (zs ++ [UInt8.ofNat (128 + z % 128)]) (z / 128) := by
 obtain ⟨f, h1, h2, h3, h4⟩ := h
 cases f with
 | zero => simp at h3; omega
 | succ f =>
  refine ⟨f, by omega, by simp; omega, by rw [Nat.pow_succ] at h3; omega, ?_⟩
  rw [← h4, vnat, if_neg hz]
  simp
theorem puts_len {p zs : List UInt8} {z0 z : Nat} (h : Puts p z0 zs z) : zs.length ≤ p.length + 9 := by
 obtain ⟨f, h1, h2, _⟩ := h
 omega
theorem or_128 (z : Nat) : binV .or (.int .u8 (IntKind.u8.wrap (z : Int))) (.int .u8 128) = some (.int .u8 ((UInt8.ofNat (128 + z % 128)).toNat : Int)) := by
 have key : ∀ b : Fin 256, (BitVec.ofInt 8 ((b.val : Nat) : Int) ||| BitVec.ofInt 8 128).toNat = 128 + b.val % 128 := by decide +kernel
 have h1 : IntKind.u8.wrap (z : Int) = ((z % 256 : Nat) : Int) := by rw [IntKind.wrap_u8]; omega
 have h2 := key ⟨z % 256, Nat.mod_lt _ (by omega)⟩
 rw [h1]
 simp only [binV]
 rw [if_pos trivial]
 have h3 : (BitVec.ofInt IntKind.u8.bits ((z % 256 : Nat) : Int) ||| BitVec.ofInt IntKind.u8.bits 128).toNat = 128 + z % 128 := by
  refine h2.trans ?_
  dsimp only
  omega
 rw [h3]
 simp [IntKind.wrap_u8]
theorem u8_nat (z : Nat) : IntKind.u8.wrap (z : Int) = ((UInt8.ofNat z).toNat : Int) := by
 rw [IntKind.wrap_u8]
 simp
theorem shr_7 (z : Nat) : binV .shr (.int .u64 (z : Int)) (.int .u64 7) = some (.int .u64 ((z / 128 : Nat) : Int)) := by
 simp [binV, IntKind.bits]
 rw [Int.fdiv_eq_ediv_of_nonneg _ (by omega)]
theorem shl_1 (n : Int) : binV .shl (.int .u64 (IntKind.u64.wrap n)) (.int .u64 1) = some (.int .u64 (IntKind.u64.wrap (IntKind.u64.wrap n * 2))) := by
 simp [binV, IntKind.bits]
def sgn (n : Int) : Int := if 0 ≤ n then 0 else -1
theorem shr_63 {n : Int} (h : I64 n) : binV .shr (.int .i64 n) (.int .u64 63) = some (.int .i64 (sgn n)) := by
 have h1 : n.fdiv 9223372036854775808 = sgn n := by
  rw [Int.fdiv_eq_ediv_of_nonneg _ (by omega)]
  unfold sgn I64 at *
  split <;> omega
 simp [binV, IntKind.bits, h1]
theorem xor_zig {n : Int} (h : I64 n) : binV .xor (.int .u64 (IntKind.u64.wrap (IntKind.u64.wrap n * 2))) (.int .u64 (IntKind.u64.wrap (sgn n))) = some (.int .u64 (zig n : Int)) := by
 have hz := zig_lt h
 have key : (BitVec.ofInt 64 (IntKind.u64.wrap (IntKind.u64.wrap n * 2)) ^^^ BitVec.ofInt 64 (IntKind.u64.wrap (sgn n))).toNat = zig n := by
  unfold I64 at h
  by_cases h0 : 0 ≤ n
  ·have e1 : IntKind.u64.wrap (IntKind.u64.wrap n * 2) = 2 * n := by rw [IntKind.wrap_u64, IntKind.wrap_u64]; omega
   have e2 : IntKind.u64.wrap (sgn n) = 0 := by rw [sgn, if_pos h0]; rfl
   rw [e1, e2]
   have : BitVec.ofInt 64 0 = 0#64 := rfl
   rw [this, BitVec.xor_zero, BitVec.toNat_ofInt]
   simp [zig, h0]
   omega
  ·have e1 : IntKind.u64.wrap (IntKind.u64.wrap n * 2) = (2 * n) % 18446744073709551616 := by rw [IntKind.wrap_u64, IntKind.wrap_u64]; omega
   have e2 : IntKind.u64.wrap (sgn n) = 18446744073709551615 := by rw [sgn, if_neg h0]; rfl
   rw [e1, e2]
   have : BitVec.ofInt 64 18446744073709551615 = BitVec.allOnes 64 := by decide
   rw [this, BitVec.xor_allOnes, BitVec.toNat_not, BitVec.toNat_ofInt]
   simp [zig, h0]
   omega
 simp only [binV]
 rw [if_pos trivial]
 have e3 : (BitVec.ofInt IntKind.u64.bits (IntKind.u64.wrap (IntKind.u64.wrap n * 2)) ^^^ BitVec.ofInt IntKind.u64.bits (IntKind.u64.wrap (sgn n))).toNat = zig n := key
 rw [e3, IntKind.wrap_u64]
 congr 2
 omega
theorem PutVar_ok (l : List UInt8) (n : Int) (hn : I64 n) (v : Value) (G : Nat → Option Obj) (hl : SB G v l) (hb : l.length ≤ 100000) :
  FnO Tryz.prog 109 #[v, .int .i64 n] G [] (fun _ L' r => OwnB (l ++ pvB n) L' r) := by
 refine F109.fnO (by simp) noRegs_nil (go_of ?_)
 have hl0 := hl
 obtain ⟨A, c, rfl, hc, hm, hA⟩ := hl
 unfold c109
 intros; refine gr 0 0 ?_; refine sJ c109r0.eq_1 ?_
 intros; refine gr 7 14 ?_; (refine sJ4 c109r1.eq_1 @shl_1 (shr_63 hn) (xor_zig hn) ?_)
 intros; refine gr 14 16 ?_; refine sJ c109r2.eq_1 ?_
 refine (Clone_ok l _ G hl0 (by omega) _ []).mono ?_
 rintro r h' ⟨G1, L', rfl, hg1, ys, hys, rfl⟩
 refine sI ?_
 (intros; try refine go_st ?_)
 refine go_loop (fun e h => ∃ (z : Nat) (zs : List UInt8) (zc : List Value) (u : Value), (Puts l (zig n) zs z ∧ Cells UE 1 zs zc) ∧ e 5 = .int .u64 (z : Int) ∧ e 6 = u ∧ h.G = G1 ∧ h.D = [] ∧ [Item.row u 5 1 zs.length zc].Sublist h.L) (fun e h => iv (e 5)) ?_ ?_
 ·exact ⟨zig n, l, ys, _, ⟨puts_zero l (zig_lt hn), hys⟩, eE, eE, rfl, rfl, List.Sublist.refl _⟩
 ·rintro e ⟨G', L, D⟩ ⟨z, zs, zc, u, ⟨hp, hcs⟩, e5, e6, hG, hD, hL⟩
  dsimp only at hG hD hL
  subst hG hD
  refine go_ghost (ghost_sub hL) ?_
  refine go_keep [5, 6] ?_
  refine sJ2 @e5 @e6 ?_
  have hlen := puts_len hp
  intros; refine gr 16 17 ?_; refine sJ c109r3.eq_1 ?_
  intros; refine gc ?_; refine sI ?_
  refine gb (fun ht => ?_) (fun ht => ?_)
  ·have hz : ¬ z < 128 := by simp at ht; omega
   intros; refine gr 20 26 ?_; refine sJ2 c109r4.eq_1 @or_128 ?_
   intro bk hbk
   refine app8 (L1 := []) (L2 := []) rfl rfl hcs (by omega) fun A' c' zc' hzc => ?_
   refine sI ?_
   intros; refine gr 18 20 ?_; refine sJ2 c109r5.eq_1 @shr_7 ?_
   (intros; try refine go_st ?_)
   refine go_l ⟨⟨z / 128, _, zc', _, ⟨puts_more hp hz, hzc⟩, eE, eE, rfl, rfl, .cons _ (List.Sublist.refl _)⟩, ?_⟩
   refine sI ?_
   simp [iv]
   omega
  ·have hz : z < 128 := by simp at ht; omega
   refine go_exit ?_
   refine sI ?_
   intros; refine gr 26 31 ?_; refine sJ2 c109r6.eq_1 @u8_nat ?_
   intro bk hbk
   refine app8 (L1 := []) (L2 := []) rfl rfl hcs (by omega) fun A' c' zc' hzc => ?_
   refine sI ?_
   (intros; try refine go_st ?_)
   rw [puts_end hp hz] at hzc ⊢
   refine go_ret (retQ_o _ rfl (.cons _ (List.Sublist.refl _)) (noRegs_row noRegs_nil) ?_)
   exact ⟨zc', hzc, rfl⟩
theorem RPutVar_ok (l : List UInt8) (n : Int) (hn : I64 n) (v : Value) (G : Nat → Option Obj) (hl : SB G v l) (hb : l.length ≤ 100000) :
  FnO Tryz.prog 97 #[v, .int .i64 n] G [] (fun _ L' r => OwnB (l ++ pvB n) L' r) := by
 refine F97.fnO (by simp) noRegs_nil (go_of ?_)
 have hl0 := hl
 have hn0 := hn
 unfold I64 at hn
 obtain ⟨A, c, rfl, hc, hm, hA⟩ := hl
 unfold c97
 intros; refine gr 0 0 ?_; refine sJ c97r0.eq_1 ?_
 intros; refine gr 7 10 ?_; refine sJ2 c97r1.eq_1 @bin_mul ?_
 have hrest : ∀ (e : Env), e 0 = .slice A l.length c → e 5 = .int .u64 (zig n : Int) → go none Tryz.prog 36 v97.1 v97.2 (retQ o97 fun v h => OwnB (l ++ pvB n) h.L v) [Td.s ((SC.reg false c97r4).seq ((SC.blk 0 (((SC.reg false c97r5).seq (SC.cond (O.t 21) SC.skip (SC.exit 0))).seq (SC.blk 1 ((SC.reg false c97r6).seq (SC.reg false c97r7)))).loop).seq ((SC.reg false c97r8).seq SC.ret)))] e ⟨G, [], []⟩ := fun e e0 e5 => by
  refine go_keep [0, 5] ?_
  refine sJ2 @e0 @e5 ?_
  intros; refine gr 18 20 ?_; refine sJ c97r4.eq_1 ?_
  refine (Copy_ok l _ G hl0 (by omega) _ []).mono ?_
  rintro r h' ⟨G1, L', rfl, hg1, ys, hys, rfl⟩
  refine sI ?_
  (intros; try refine go_st ?_)
  refine go_loop (fun e h => ∃ (z : Nat) (zs : List UInt8) (zc : List Value) (u : Value), (Puts l (zig n) zs z ∧ Cells UE 1 zs zc ∧ z < 18446744073709551616) ∧ e 5 = .int .u64 (z : Int) ∧ e 6 = u ∧ h.G = G1 ∧ h.D = [] ∧ [Item.row u 5 1 zs.length zc].Sublist h.L) (fun e h => iv (e 5)) ?_ ?_
  ·exact ⟨zig n, l, ys, _, ⟨puts_zero l (zig_lt hn0), hys, zig_lt hn0⟩, eE, eE, rfl, rfl, List.Sublist.refl _⟩
  ·rintro e ⟨G', L, D⟩ ⟨z, zs, zc, u, ⟨hp, hcs, hzb⟩, e5, e6, hG, hD, hL⟩
   dsimp only at hG hD hL
   subst hG hD
   refine go_ghost (ghost_sub hL) ?_
   refine go_keep [5, 6] ?_
   refine sJ2 @e5 @e6 ?_
   have hlen := puts_len hp
   intros; refine gr 20 21 ?_; refine sJ c97r5.eq_1 ?_
   intros; refine gc ?_; refine sI ?_
   refine gb (fun ht => ?_) (fun ht => ?_)
   ·have hz : ¬ z < 128 := by simp at ht; omega
    have hpm := puts_more hp hz
    have hdz : z / 128 < z := by omega
    have hq : binV .quo (.int .u64 (z : Int)) (.int .u64 128) = some (.int .u64 ((z / 128 : Nat) : Int)) := bin_quo .u64 z 128 (by decide) (by simp [IntKind.max, IntKind.signed, IntKind.bits]; omega) rfl
    generalize z / 128 = q at hq hpm hdz
    have hr : binV .rem (.int .u64 (z : Int)) (.int .u64 128) = some (.int .u64 ((z : Int) % 128)) := bin_rem .u64 z 128 (by decide)
    have hw : IntKind.u8.wrap (IntKind.u64.wrap (128 + (z : Int) % 128)) = ((UInt8.ofNat (128 + z % 128)).toNat : Int) := by
     rw [← u8_nat, IntKind.wrap_u64]
     congr 1
     omega
    intros; refine gr 22 29 ?_; refine sJ3 c97r6.eq_1 @hr @bin_add ?_
    intro bk hbk
    refine app8 (L1 := []) (L2 := []) rfl hw hcs (by omega) fun A' c' zc' hzc => ?_
    refine sI ?_
    intros; refine gr 29 31 ?_; refine sJ2 c97r7.eq_1 @hq ?_
    (intros; try refine go_st ?_)
    refine go_l ⟨⟨q, _, zc', _, ⟨hpm, hzc, by omega⟩, eE, eE, rfl, rfl, .cons _ (List.Sublist.refl _)⟩, ?_⟩
    refine sI ?_
    omega
   ·have hz : z < 128 := by simp at ht; omega
    refine go_exit ?_
    refine sI ?_
    intros; refine gr 31 36 ?_; refine sJ2 c97r8.eq_1 @u8_nat ?_
    intro bk hbk
    refine app8 (L1 := []) (L2 := []) rfl rfl hcs (by omega) fun A' c' zc' hzc => ?_
    refine sI ?_
    (intros; try refine go_st ?_)
    rw [puts_end hp hz] at hzc ⊢
    refine go_ret (retQ_o _ rfl (.cons _ (List.Sublist.refl _)) (noRegs_row noRegs_nil) ?_)
    exact ⟨zc', hzc, rfl⟩
 intros; refine gr 10 11 ?_; refine sJ c97r2.eq_1 ?_
 intros; refine gc ?_; refine sI ?_
 refine gb (fun ht => ?_) (fun ht => ?_)
 ·have hz : IntKind.u64.wrap (IntKind.u64.wrap (2 * IntKind.u64.wrap (IntKind.i64.wrap (0 - IntKind.i64.wrap (n + 1)))) + 1) = (zig n : Int) := by
   have h0 : n < 0 := by simpa using ht
   have e1 : IntKind.i64.wrap (n + 1) = n + 1 := by rw [w64_id] <;> omega
   have e2 : IntKind.i64.wrap (0 - (n + 1)) = 0 - (n + 1) := by rw [w64_id] <;> omega
   rw [e1, e2]
   simp only [IntKind.wrap_u64, zig, if_neg (show ¬ 0 ≤ n by omega)]
   omega
  intros; refine gr 12 18 ?_; refine sJ4 c97r3.eq_1 @bin_mul @bin_add @hz ?_
  intro _
  (repeat first | refine go_skip ?_ | refine go_b ?_)
  refine hrest _ ?_ ?_ <;> (refine sI ?_; try with_reducible exact True.intro)
 ·have hz : IntKind.u64.wrap (2 * IntKind.u64.wrap n) = (zig n : Int) := by
   have h0 : ¬ n < 0 := by simpa using ht
   simp only [IntKind.wrap_u64, zig, if_pos (show 0 ≤ n by omega)]
   omega
  (repeat first | refine go_skip ?_ | refine go_b ?_)
  refine hrest _ ?_ ?_ <;> (refine sJ @hz ?_; try with_reducible exact True.intro)
theorem F124 : Fun Tryz.prog 124 9 v124 c124 o124 := Fun.mk' Tryz.func124 Tryz.ntmps124 (by kernel_rfl) (by kernel_rfl) s124 q124
theorem F113 : Fun Tryz.prog 113 9 v113 c113 o113 := Fun.mk' Tryz.func113 Tryz.ntmps113 (by kernel_rfl) (by kernel_rfl) s113 q113
theorem F125 : Fun Tryz.prog 125 11 v125 c125 o125 := Fun.mk' Tryz.func125 Tryz.ntmps125 (by kernel_rfl) (by kernel_rfl) s125 q125
theorem F114 : Fun Tryz.prog 114 11 v114 c114 o114 := Fun.mk' Tryz.func114 Tryz.ntmps114 (by kernel_rfl) (by kernel_rfl) s114 q114
theorem F108 : Fun Tryz.prog 108 33 v108 c108 o108 := Fun.mk' Tryz.func108 Tryz.ntmps108 (by kernel_rfl) (by kernel_rfl) s108 q108
theorem F96 : Fun Tryz.prog 96 39 v96 c96 o96 := Fun.mk' Tryz.func96 Tryz.ntmps96 (by kernel_rfl) (by kernel_rfl) s96 q96
def inO (n : Int) : Bool := decide (0 ≤ n) && decide (n ≤ 1099511627776)
theorem in_ok (n : Int) (G : Nat → Option Obj) : FnS Tryz.prog 124 #[.int .i64 n] G (.bool (inO n)) := by
 refine F124.fnS (by simp) (go_of ?_)
 unfold c124
 intros; refine gr 0 0 ?_; refine sJ c124r0.eq_1 ?_
 intros; refine gr 3 9 ?_; refine sJ c124r1.eq_1 ?_
 refine gd (fun h1 => ?_) (fun h1 => ?_)
 ·refine sI ?_
  intros; refine rV ?_; simp only [push_cast, Nat.reduceBEq]
  have : 0 ≤ n := by simpa using h1
  simp [inO, this]
 ·refine sI ?_
  intros; refine rV ?_; simp only [push_cast, Nat.reduceBEq]
  have : ¬ 0 ≤ n := by simpa using h1
  simp [inO, this]
theorem In_ok (n : Int) (G : Nat → Option Obj) : FnS Tryz.prog 113 #[.int .i64 n] G (.bool (inO n)) := by
 refine F113.fnS (by simp) (go_of ?_)
 unfold c113
 intros; refine gr 0 0 ?_; refine sJ c113r0.eq_1 ?_
 intros; refine gr 3 9 ?_; refine sJ c113r1.eq_1 ?_
 refine gd (fun h1 => ?_) (fun h1 => ?_)
 ·refine sI ?_
  intros; refine rV ?_; simp only [push_cast, Nat.reduceBEq]
  have : 0 ≤ n := by simpa using h1
  simp [inO, this]
 ·refine sI ?_
  intros; refine rV ?_; simp only [push_cast, Nat.reduceBEq]
  have : ¬ 0 ≤ n := by simpa using h1
  simp [inO, this]
def ptB (s : ByteArray) : List UInt8 := pvB s.size ++ s.data.toList
theorem ptB_len (s : ByteArray) : (ptB s).length ≤ 10 + s.size := by
 have := pvB_len s.size
 simp [ptB]
 omega
theorem PutText_ok (l : List UInt8) (s : ByteArray) (v : Value) (G : Nat → Option Obj) (hl : SB G v l) (hb : l.length ≤ 100000) (hs : s.size ≤ 100000) :
  FnO Tryz.prog 125 #[v, .string s] G [] (fun _ L' r => OwnB (l ++ ptB s) L' r) := by
 refine F125.fnO (by simp) noRegs_nil (go_of ?_)
 unfold c125
 intros; refine gr 0 0 ?_; refine sJ c125r0.eq_1 ?_
 intros; refine gr 5 11 ?_; refine sJ c125r1.eq_1 ?_
 refine (PutVar_ok l s.size (by unfold I64; omega) v G hl hb _ []).mono ?_
 rintro r h' ⟨G1, L', rfl, hg1, ys, hys, rfl⟩
 refine sI ?_
 have hpl := pvB_len s.size
 refine apX_s (L1 := []) (.inl rfl) hys (by rw [List.length_append]; omega) fun A' c' zc' hzc => ?_
 refine sI ?_
 (intros; try refine go_st ?_)
 refine go_ret (retQ_o _ rfl (List.Sublist.refl _) (noRegs_row noRegs_nil) ?_)
 rw [List.append_assoc] at hzc ⊢
 exact ⟨zc', hzc, rfl⟩
theorem RPutText_ok (l : List UInt8) (s : ByteArray) (v : Value) (G : Nat → Option Obj) (hl : SB G v l) (hb : l.length ≤ 100000) (hs : s.size ≤ 100000) :
  FnO Tryz.prog 114 #[v, .string s] G [] (fun _ L' r => OwnB (l ++ ptB s) L' r) := by
 refine F114.fnO (by simp) noRegs_nil (go_of ?_)
 unfold c114
 intros; refine gr 0 0 ?_; refine sJ c114r0.eq_1 ?_
 intros; refine gr 5 11 ?_; refine sJ c114r1.eq_1 ?_
 refine (RPutVar_ok l s.size (by unfold I64; omega) v G hl hb _ []).mono ?_
 rintro r h' ⟨G1, L', rfl, hg1, ys, hys, rfl⟩
 refine sI ?_
 have hpl := pvB_len s.size
 refine apX_s (L1 := []) (.inl rfl) hys (by rw [List.length_append]; omega) fun A' c' zc' hzc => ?_
 refine sI ?_
 (intros; try refine go_st ?_)
 refine go_ret (retQ_o _ rfl (List.Sublist.refl _) (noRegs_row noRegs_nil) ?_)
 rw [List.append_assoc] at hzc ⊢
 exact ⟨zc', hzc, rfl⟩
structure Rec where
 off : Int
 key : ByteArray
 val : ByteArray
 dead : Bool
 stamp : Int
def cellR (x : Rec) : List Value := [.int .i64 x.off, .string x.key, .string x.val, .bool x.dead, .int .i64 x.stamp]
def RR (x : Rec) (cs : List Value) : Prop := cs = cellR x ∧ (I64 x.off ∧ I64 x.stamp) ∧ x.key.size ≤ maxLen ∧ x.val.size ≤ maxLen
def isE (s : ByteArray) : Bool := s.toList == ByteArray.toList ⟨#[]⟩
def chkR (x : Rec) : Int := if inO x.off = true ∧ inO x.stamp = true ∧ x.key.size ≤ 64 ∧ x.val.size ≤ 64 ∧ ¬ (x.dead = true ∧ (isE x.key = true ∨ isE x.val = false)) then 0 else 1
theorem bin_seq (a : ByteArray) : binV .eql (.string a) (.string ⟨#[]⟩) = some (.bool (isE a)) := rfl
theorem bin_sne (a : ByteArray) : binV .neq (.string a) (.string ⟨#[]⟩) = some (.bool (!isE a)) := rfl
theorem chkR_1 {x : Rec} (h : inO x.off = false ∨ inO x.stamp = false ∨ 64 < x.key.size ∨ 64 < x.val.size ∨ (x.dead = true ∧ (isE x.key = true ∨ isE x.val = false))) : chkR x = 1 := by
 refine if_neg fun ⟨h1, h2, h3, h4, h5⟩ => ?_
 rcases h with h | h | h | h | h
 ·rw [h1] at h; cases h
 ·rw [h2] at h; cases h
 ·omega
 ·omega
 ·exact h5 h
theorem RCheck_ok (x : Rec) (G : Nat → Option Obj) : FnS Tryz.prog 96 #[.agg (cellR x).toArray] G (.int .i64 (chkR x)) := by
 refine F96.fnS (by simp) (go_of ?_)
 unfold c96 cellR
 intros; refine gr 0 0 ?_; refine sJ c96r0.eq_1 ?_
 have hbad : ∀ (fr : List Td) (e : Env) (L : List Kx.Item), chkR x = 1 → go none Tryz.prog 39 v96.1 v96.2 (retQ o96 fun v h => v = .int .i64 (chkR x)) (Td.s ((SC.reg false c96r2).seq .ret) :: fr) e ⟨G, L, []⟩ := fun fr e L hx => by
  intros; refine gr 0 0 ?_; refine sJ c96r2.eq_1 ?_
  intros; refine rV ?_; simp only [push_cast, Nat.reduceBEq]
  rw [hx]
 have hgood : ∀ (e : Env) (L : List Kx.Item), chkR x = 0 → go none Tryz.prog 39 v96.1 v96.2 (retQ o96 fun v h => v = .int .i64 (chkR x)) [Td.s ((SC.reg false c96r3).seq .ret)] e ⟨G, L, []⟩ := fun e L hx => by
  intros; refine gr 0 0 ?_; refine sJ c96r3.eq_1 ?_
  intros; refine rV ?_; simp only [push_cast, Nat.reduceBEq]
  rw [hx]
 intros; refine gr 4 38 ?_; refine sJ c96r1.eq_1 ?_
 refine (In_ok x.off G _ _).mono ?_; rintro _ _ ⟨rfl, rfl⟩; refine sI ?_
 refine gd (fun h1 => ?_) (fun h1 => ?_)
 ·refine sI ?_
  intros; refine gc ?_; refine sI ?_
  exact hbad _ _ _ (chkR_1 (.inl (by simpa using h1)))
 refine sI ?_
 refine (In_ok x.stamp G _ _).mono ?_; rintro _ _ ⟨rfl, rfl⟩; refine sI ?_
 refine gd (fun h2 => ?_) (fun h2 => ?_)
 ·refine sI ?_
  intros; refine gc ?_; refine sI ?_
  exact hbad _ _ _ (chkR_1 (.inr (.inl (by simpa using h2))))
 refine sI ?_
 refine gd (fun h3 => ?_) (fun h3 => ?_)
 ·refine sI ?_
  intros; refine gc ?_; refine sI ?_
  exact hbad _ _ _ (chkR_1 (.inr (.inr (.inl (by simp at h3; omega)))))
 refine sI ?_
 refine gd (fun h4 => ?_) (fun h4 => ?_)
 ·refine sI ?_
  intros; refine gc ?_; refine sI ?_
  exact hbad _ _ _ (chkR_1 (.inr (.inr (.inr (.inl (by simp at h4; omega))))))
 refine sI ?_
 have h1' : inO x.off = true := by simpa using h1
 have h2' : inO x.stamp = true := by simpa using h2
 have h3' : x.key.size ≤ 64 := by simp at h3; omega
 have h4' : x.val.size ≤ 64 := by simp at h4; omega
 refine gd (fun h5 => ?_) (fun h5 => ?_)
 ·refine sJ @bin_seq ?_
  refine gd (fun h6 => ?_) (fun h6 => ?_)
  ·refine sI ?_
   intros; refine gc ?_; refine sI ?_
   exact hbad _ _ _ (chkR_1 (.inr (.inr (.inr (.inr ⟨h5, .inl h6⟩)))))
  refine sJ @bin_sne ?_
  intros; refine gc ?_; refine sI ?_
  refine gb (fun h7 => ?_) (fun h7 => ?_)
  ·exact hbad _ _ _ (chkR_1 (.inr (.inr (.inr (.inr ⟨h5, .inr (by simpa using h7)⟩)))))
  ·(repeat first | refine go_skip ?_ | refine go_b ?_)
   refine hgood _ _ (if_pos ⟨h1', h2', h3', h4', fun h => ?_⟩)
   rcases h.2 with h | h
   ·rw [h6] at h; cases h
   ·simp [h] at h7
 ·refine sI ?_
  intros; refine gc ?_; refine sI ?_
  (repeat first | refine go_skip ?_ | refine go_b ?_)
  exact hgood _ _ (if_pos ⟨h1', h2', h3', h4', fun h => by rw [h5] at h; cases h.1⟩)
theorem Check_ok (x : Rec) (G : Nat → Option Obj) : FnS Tryz.prog 108 #[.agg (cellR x).toArray] G (.int .i64 (chkR x)) := by
 refine F108.fnS (by simp) (go_of ?_)
 unfold c108 cellR
 intros; refine gr 0 0 ?_; refine sJ c108r0.eq_1 ?_
 have hbad : ∀ (fr : List Td) (e : Env) (L : List Kx.Item), chkR x = 1 → go none Tryz.prog 33 v108.1 v108.2 (retQ o108 fun v h => v = .int .i64 (chkR x)) (Td.s ((SC.reg false c108r4).seq .ret) :: fr) e ⟨G, L, []⟩ := fun fr e L hx => by
  intros; refine gr 0 0 ?_; refine sJ c108r4.eq_1 ?_
  intros; refine rV ?_; simp only [push_cast, Nat.reduceBEq]
  rw [hx]
 intros; refine gr 5 8 ?_; refine sJ c108r1.eq_1 ?_
 refine (in_ok x.off G _ _).mono ?_; rintro _ _ ⟨rfl, rfl⟩; refine sI ?_
 intros; refine gc ?_; refine sI ?_
 refine gb (fun h1 => ?_) (fun h1 => ?_)
 ·(repeat first | refine go_skip ?_ | refine go_b ?_)
  intros; refine gc ?_; refine sI ?_
  refine gb (fun _ => ?_) (fun h => by rw [h1] at h; cases h)
  exact hbad _ _ _ (chkR_1 (.inl (by simpa using h1)))
 intros; refine gr 9 12 ?_; refine sJ c108r2.eq_1 ?_
 refine (in_ok x.stamp G _ _).mono ?_; rintro _ _ ⟨rfl, rfl⟩; refine sI ?_
 intros; refine gc ?_; refine sI ?_
 refine gb (fun h2 => ?_) (fun h2 => ?_)
 ·(repeat first | refine go_skip ?_ | refine go_b ?_)
  intros; refine gc ?_; refine sI ?_
  refine gb (fun _ => ?_) (fun h => by rw [h2] at h; cases h)
  exact hbad _ _ _ (chkR_1 (.inr (.inl (by simpa using h2))))
 have h1' : inO x.off = true := by simpa using h1
 have h2' : inO x.stamp = true := by simpa using h2
 intros; refine gr 13 20 ?_; refine sJ c108r3.eq_1 ?_
 intros; refine gc ?_; refine sI ?_
 refine gb (fun h3 => ?_) (fun h3 => ?_)
 ·have h3 := of_decide_eq_true h3
  by_cases h4 : 64 < x.key.size
  ·exact hbad _ _ _ (chkR_1 (.inr (.inr (.inl h4))))
  ·exact hbad _ _ _ (chkR_1 (.inr (.inr (.inr (.inl (by omega))))))
 have h3 := of_decide_eq_false h3
 have h3' : x.key.size ≤ 64 := by omega
 have h4' : x.val.size ≤ 64 := by omega
 have hbad2 : ∀ (fr : List Td) (e : Env) (L : List Kx.Item), chkR x = 1 → go none Tryz.prog 33 v108.1 v108.2 (retQ o108 fun v h => v = .int .i64 (chkR x)) (Td.s ((SC.reg false c108r6).seq .ret) :: fr) e ⟨G, L, []⟩ := fun fr e L hx => by
  intros; refine gr 0 0 ?_; refine sJ c108r6.eq_1 ?_
  intros; refine rV ?_; simp only [push_cast, Nat.reduceBEq]
  rw [hx]
 have hgood : ∀ (e : Env) (L : List Kx.Item), chkR x = 0 → go none Tryz.prog 33 v108.1 v108.2 (retQ o108 fun v h => v = .int .i64 (chkR x)) [Td.s ((SC.reg false c108r7).seq .ret)] e ⟨G, L, []⟩ := fun e L hx => by
  intros; refine gr 0 0 ?_; refine sJ c108r7.eq_1 ?_
  intros; refine rV ?_; simp only [push_cast, Nat.reduceBEq]
  rw [hx]
 intros; refine gr 22 33 ?_; refine sJ c108r5.eq_1 ?_
 refine gd (fun h5 => ?_) (fun h5 => ?_)
 ·refine sJ @bin_seq ?_
  refine gd (fun h6 => ?_) (fun h6 => ?_)
  ·refine sI ?_
   intros; refine gc ?_; refine sI ?_
   exact hbad2 _ _ _ (chkR_1 (.inr (.inr (.inr (.inr ⟨h5, .inl h6⟩)))))
  refine sJ @bin_sne ?_
  intros; refine gc ?_; refine sI ?_
  refine gb (fun h7 => ?_) (fun h7 => ?_)
  ·exact hbad2 _ _ _ (chkR_1 (.inr (.inr (.inr (.inr ⟨h5, .inr (by simpa using h7)⟩)))))
  ·(repeat first | refine go_skip ?_ | refine go_b ?_)
   refine hgood _ _ (if_pos ⟨h1', h2', h3', h4', fun h => ?_⟩)
   rcases h.2 with h | h
   ·rw [h6] at h; cases h
   ·simp [h] at h7
 ·refine sI ?_
  intros; refine gc ?_; refine sI ?_
  (repeat first | refine go_skip ?_ | refine go_b ?_)
  exact hgood _ _ (if_pos ⟨h1', h2', h3', h4', fun h => by rw [h5] at h; cases h.1⟩)
theorem F110 : Fun Tryz.prog 110 46 v110 c110 o110 := Fun.mk' Tryz.func110 Tryz.ntmps110 (by kernel_rfl) (by kernel_rfl) s110 q110
theorem F98 : Fun Tryz.prog 98 50 v98 c98 o98 := Fun.mk' Tryz.func98 Tryz.ntmps98 (by kernel_rfl) (by kernel_rfl) s98 q98
def prB (x : Rec) (base stamp : Int) : List UInt8 := pvB (x.off - base) ++ pvB (x.stamp - stamp) ++ [if x.dead = true then 1 else 0] ++ ptB x.key ++ ptB x.val
def putR (x : Rec) (base stamp : Int) : List UInt8 × Int := if chkR x ≠ 0 then ([], chkR x) else if ¬ (inO base = true ∧ inO stamp = true) then ([], 1) else (prB x base stamp, 0)
def OwnE (p : List UInt8 × Int) (L' : List Kx.Item) (r : Value) : Prop := ∃ u, r = .tuple #[u, .int .i64 p.2] ∧ OwnB p.1 L' u
theorem chk_small {x : Rec} (h : chkR x = 0) : (inO x.off = true ∧ inO x.stamp = true) ∧ x.key.size ≤ 64 ∧ x.val.size ≤ 64 := by
 by_cases h0 : inO x.off = true ∧ inO x.stamp = true ∧ x.key.size ≤ 64 ∧ x.val.size ≤ 64 ∧ ¬ (x.dead = true ∧ (isE x.key = true ∨ isE x.val = false))
 ·exact ⟨⟨h0.1, h0.2.1⟩, h0.2.2.1, h0.2.2.2.1⟩
 ·rw [chkR, if_neg h0] at h; cases h
theorem RPut_ok (x : Rec) (base stamp : Int) (G : Nat → Option Obj) : FnO Tryz.prog 98 #[.agg (cellR x).toArray, .int .i64 base, .int .i64 stamp] G [] (fun _ L' r => OwnE (putR x base stamp) L' r) := by
 refine F98.fnO (by simp) noRegs_nil (go_of ?_)
 unfold c98
 have hck := RCheck_ok x
 unfold cellR at hck ⊢
 intros; refine gr 0 0 ?_; refine sJ c98r0.eq_1 ?_
 intros; refine gr 10 12 ?_; refine sJ c98r1.eq_1 ?_
 refine (hck G _ _).mono ?_; rintro _ _ ⟨rfl, rfl⟩; refine sI ?_
 intros; refine gr 12 13 ?_; refine sJ c98r2.eq_1 ?_
 intros; refine gc ?_; refine sI ?_
 refine gb (fun h1 => ?_) (fun h1 => ?_)
 ·intros; refine gr 14 15 ?_; refine sJ c98r3.eq_1 ?_
  (intros; try refine go_st ?_)
  refine go_ghost (ghost_nil none 5 1) ?_
  refine go_ret (retQ_o _ rfl (.cons_cons _ (List.nil_sublist _)) (noRegs_row noRegs_nil) ?_)
  rw [putR, if_pos (by simpa using h1)]
  exact ⟨_, rfl, [], .nil, rfl⟩
 have h1 : chkR x = 0 := by simpa using h1
 have hbad : ∀ (fr : List Td) (e : Env) (L : List Kx.Item), putR x base stamp = ([], 1) → go none Tryz.prog 50 v98.1 v98.2 (retQ o98 fun v h => OwnE (putR x base stamp) h.L v) (Td.s ((SC.reg false c98r5).seq .ret) :: fr) e ⟨G, L, []⟩ := fun fr e L hx => by
  intros; refine gr 0 0 ?_; refine sJ c98r5.eq_1 ?_
  (intros; try refine go_st ?_)
  refine go_ghost (ghost_nil none 5 1) ?_
  refine go_ret (retQ_o _ rfl (.cons_cons _ (List.nil_sublist _)) (noRegs_row noRegs_nil) ?_)
  rw [hx]
  exact ⟨_, rfl, [], .nil, rfl⟩
 have hpb : ∀ (h : ¬ (inO base = true ∧ inO stamp = true)), putR x base stamp = ([], 1) := fun h => by rw [putR, if_neg (by simp [h1]), if_pos h]
 intros; refine gr 15 22 ?_; refine sJ c98r4.eq_1 ?_
 refine (In_ok base G _ _).mono ?_; rintro _ _ ⟨rfl, rfl⟩; refine sI ?_
 refine gd (fun h2 => ?_) (fun h2 => ?_)
 ·refine sI ?_
  intros; refine gc ?_; refine sI ?_
  exact hbad _ _ _ (hpb fun h => by rw [h.1] at h2; cases h2)
 refine sI ?_
 refine (In_ok stamp G _ _).mono ?_; rintro _ _ ⟨rfl, rfl⟩; refine sI ?_
 intros; refine gc ?_; refine sI ?_
 refine gb (fun h3 => ?_) (fun h3 => ?_)
 ·exact hbad _ _ _ (hpb fun h => by rw [h.2] at h3; cases h3)
 have h2 : inO base = true := by simpa using h2
 have h3 : inO stamp = true := by simpa using h3
 obtain ⟨⟨ho, hst⟩, hk, hv⟩ := chk_small h1
 have hput : putR x base stamp = (prB x base stamp, 0) := by rw [putR, if_neg (by simp [h1]), if_neg (by simp [h2, h3])]
 simp [inO] at h2 h3 ho hst
 have w1 : IntKind.i64.wrap (x.off - base) = x.off - base := by rw [w64_id] <;> omega
 have w2 : IntKind.i64.wrap (x.stamp - stamp) = x.stamp - stamp := by rw [w64_id] <;> omega
 have i1 : I64 (x.off - base) := by unfold I64; omega
 have i2 : I64 (x.stamp - stamp) := by unfold I64; omega
 have l1 := pvB_len (x.off - base)
 have l2 := pvB_len (x.stamp - stamp)
 (repeat first | refine go_skip ?_ | refine go_b ?_)
 intros; refine gr 24 28 ?_; refine sJ2 c98r6.eq_1 @w1 ?_
 refine (RPutVar_ok [] (x.off - base) i1 _ G SB.nil (by simp) _ []).mono ?_
 rintro r h' ⟨G1, L', rfl, hg1, ys, hys, rfl⟩
 simp only [List.nil_append] at hys ⊢
 refine sI ?_
 intros; refine gr 28 34 ?_; refine sJ2 c98r7.eq_1 @w2 ?_
 refine callsH_gx F97.enters (gx_slv_at [] _ (by decide) hys) ?_
 rintro h' ⟨G2, rfl, hg2, hv2⟩
 refine (RPutVar_ok _ (x.stamp - stamp) i2 _ G2 hv2 (by omega) _ []).mono ?_
 rintro r h' ⟨G3, L', rfl, hg3, ys3, hys3, rfl⟩
 refine sI ?_
 have hrest : ∀ (e : Env) (L : List Kx.Item) (u : Value) (zc : List Value) (b : UInt8), b = (if x.dead = true then 1 else 0) → Cells UE 1 (pvB (x.off - base) ++ pvB (x.stamp - stamp) ++ [b]) zc → e 9 = u →
   go none Tryz.prog 50 v98.1 v98.2 (retQ o98 fun v h => OwnE (putR x base stamp) h.L v) [Td.s ((SC.reg false c98r11).seq ((SC.reg false c98r12).seq .ret))] e ⟨G3, [.row u 5 1 (pvB (x.off - base) ++ pvB (x.stamp - stamp) ++ [b]).length zc, .reg 3 [.int .i64 x.off, .string x.key, .string x.val, .bool x.dead, .int .i64 x.stamp]], []⟩ := fun e L u zc b hb hzc e9 => by
  refine go_keep [9] ?_
  refine sJ @e9 ?_
  intros; refine gr 42 46 ?_; refine sJ c98r11.eq_1 ?_
  refine callsH_gx F114.enters (gx_slv_at [] _ (by decide) hzc) ?_
  rintro h' ⟨G4, rfl, hg4, hv4⟩
  refine (RPutText_ok _ x.key _ G4 hv4 (by simp; omega) (by omega) _ []).mono ?_
  rintro r h' ⟨G5, L', rfl, hg5, ys5, hys5, rfl⟩
  refine sI ?_
  have l3 := ptB_len x.key
  intros; refine gr 46 50 ?_; refine sJ c98r12.eq_1 ?_
  refine callsH_gx F114.enters (gx_slv_at [] _ (by decide) hys5) ?_
  rintro h' ⟨G6, rfl, hg6, hv6⟩
  refine (RPutText_ok _ x.val _ G6 hv6 (by simp; omega) (by omega) _ []).mono ?_
  rintro r h' ⟨G7, L', rfl, hg7, ys7, hys7, rfl⟩
  refine sI ?_
  (intros; try refine go_st ?_)
  refine go_ret (retQ_o _ rfl (.cons_cons _ (List.nil_sublist _)) (noRegs_row noRegs_nil) ?_)
  rw [hput]
  subst hb
  exact ⟨_, rfl, ys7, hys7, rfl⟩
 intros; refine gr 0 0 ?_; refine sJ c98r8.eq_1 ?_
 intros; refine gc ?_; refine sI ?_
 refine gb (fun h5 => ?_) (fun h5 => ?_)
 ·intros; refine gr 36 39 ?_; refine sJ c98r9.eq_1 ?_
  intro bk hbk
  refine app8 (L1 := []) (L2 := [_]) (x := 1) rfl rfl hys3 (by simp; omega) fun A' c' zc' hzc => ?_
  refine sI ?_
  intro _
  refine go_ghost (ghost_sub (.cons _ (List.Sublist.refl _))) ?_
  (repeat first | refine go_skip ?_ | refine go_b ?_)
  refine hrest _ [] _ _ 1 (by rw [if_pos h5]) hzc ?_
  (refine sI ?_; try with_reducible exact True.intro)
 ·intros; refine gr 39 42 ?_; refine sJ c98r10.eq_1 ?_
  intro bk hbk
  refine app8 (L1 := []) (L2 := [_]) (x := 0) rfl rfl hys3 (by simp; omega) fun A' c' zc' hzc => ?_
  refine sI ?_
  intro _
  refine go_ghost (ghost_sub (.cons _ (List.Sublist.refl _))) ?_
  (repeat first | refine go_skip ?_ | refine go_b ?_)
  refine hrest _ [] _ _ 0 (by rw [if_neg (by rw [h5]; simp)]) hzc ?_
  (refine sI ?_; try with_reducible exact True.intro)
theorem Put_ok (x : Rec) (base stamp : Int) (G : Nat → Option Obj) : FnO Tryz.prog 110 #[.agg (cellR x).toArray, .int .i64 base, .int .i64 stamp] G [] (fun _ L' r => OwnE (putR x base stamp) L' r) := by
 refine F110.fnO (by simp) noRegs_nil (go_of ?_)
 unfold c110
 have hck := Check_ok x
 unfold cellR at hck ⊢
 intros; refine gr 0 0 ?_; refine sJ c110r0.eq_1 ?_
 intros; refine gr 11 13 ?_; refine sJ c110r1.eq_1 ?_
 refine (hck G _ _).mono ?_; rintro _ _ ⟨rfl, rfl⟩; refine sI ?_
 intros; refine gr 13 14 ?_; refine sJ c110r2.eq_1 ?_
 intros; refine gc ?_; refine sI ?_
 refine gb (fun h1 => ?_) (fun h1 => ?_)
 ·intros; refine gr 15 16 ?_; refine sJ c110r3.eq_1 ?_
  (intros; try refine go_st ?_)
  refine go_ghost (ghost_nil none 5 1) ?_
  refine go_ret (retQ_o _ rfl (.cons_cons _ (List.nil_sublist _)) (noRegs_row noRegs_nil) ?_)
  rw [putR, if_pos (by simpa using h1)]
  exact ⟨_, rfl, [], .nil, rfl⟩
 have h1 : chkR x = 0 := by simpa using h1
 have hbad : ∀ (fr : List Td) (e : Env) (L : List Kx.Item), putR x base stamp = ([], 1) → go none Tryz.prog 46 v110.1 v110.2 (retQ o110 fun v h => OwnE (putR x base stamp) h.L v) (Td.s ((SC.reg false c110r5).seq .ret) :: fr) e ⟨G, L, []⟩ := fun fr e L hx => by
  intros; refine gr 0 0 ?_; refine sJ c110r5.eq_1 ?_
  (intros; try refine go_st ?_)
  refine go_ghost (ghost_nil none 5 1) ?_
  refine go_ret (retQ_o _ rfl (.cons_cons _ (List.nil_sublist _)) (noRegs_row noRegs_nil) ?_)
  rw [hx]
  exact ⟨_, rfl, [], .nil, rfl⟩
 have hpb : ∀ (h : ¬ (inO base = true ∧ inO stamp = true)), putR x base stamp = ([], 1) := fun h => by rw [putR, if_neg (by simp [h1]), if_pos h]
 (repeat first | refine go_skip ?_ | refine go_b ?_)
 intros; refine gr 16 23 ?_; refine sJ c110r4.eq_1 ?_
 refine (in_ok base G _ _).mono ?_; rintro _ _ ⟨rfl, rfl⟩; refine sI ?_
 refine gd (fun h2 => ?_) (fun h2 => ?_)
 ·refine sI ?_
  intros; refine gc ?_; refine sI ?_
  exact hbad _ _ _ (hpb fun h => by rw [h.1] at h2; cases h2)
 refine sI ?_
 refine (in_ok stamp G _ _).mono ?_; rintro _ _ ⟨rfl, rfl⟩; refine sI ?_
 intros; refine gc ?_; refine sI ?_
 refine gb (fun h3 => ?_) (fun h3 => ?_)
 ·exact hbad _ _ _ (hpb fun h => by rw [h.2] at h3; cases h3)
 have h2 : inO base = true := by simpa using h2
 have h3 : inO stamp = true := by simpa using h3
 obtain ⟨⟨ho, hst⟩, hk, hv⟩ := chk_small h1
 have hput : putR x base stamp = (prB x base stamp, 0) := by rw [putR, if_neg (by simp [h1]), if_neg (by simp [h2, h3])]
 simp [inO] at h2 h3 ho hst
 have w1 : IntKind.i64.wrap (x.off - base) = x.off - base := by rw [w64_id] <;> omega
 have w2 : IntKind.i64.wrap (x.stamp - stamp) = x.stamp - stamp := by rw [w64_id] <;> omega
 have i1 : I64 (x.off - base) := by unfold I64; omega
 have i2 : I64 (x.stamp - stamp) := by unfold I64; omega
 have l1 := pvB_len (x.off - base)
 have l2 := pvB_len (x.stamp - stamp)
 (repeat first | refine go_skip ?_ | refine go_b ?_)
 have hrest : ∀ (e : Env) (b : UInt8), b = (if x.dead = true then 1 else 0) → e 1 = .int .i64 base → e 2 = .int .i64 stamp → e 9 = .int .u8 (b.toNat : Int) →
   go none Tryz.prog 46 v110.1 v110.2 (retQ o110 fun v h => OwnE (putR x base stamp) h.L v) [Td.s ((SC.rgX c110r9).seq ((SC.rgX c110r10).seq .ret))] e ⟨G, [.reg 3 [.int .i64 x.off, .string x.key, .string x.val, .bool x.dead, .int .i64 x.stamp]], []⟩ := fun e b hb e1 e2 e9 => by
  refine go_keep [1, 2, 9] ?_
  refine sJ3 @e1 @e2 @e9 ?_
  (intros; try refine go_st ?_); refine go_x _ (List.Sublist.refl _) (by decide) ?_; refine sJ3 c110r9.eq_1 @w1 @w2 ?_
  refine (PutVar_ok [] (x.off - base) i1 _ G SB.nil (by simp) _ []).mono ?_
  rintro r h' ⟨G1, L', rfl, hg1, ys, hys, rfl⟩
  simp only [List.nil_append] at hys ⊢
  refine ⟨grow_L hg1 (.cons _ (List.Sublist.refl _)), ?_⟩
  refine sI ?_
  refine callsH_gx F109.enters (gx_slv_at [] _ (by decide) hys) ?_
  rintro h' ⟨G2, rfl, hg2, hv2⟩
  refine (PutVar_ok _ (x.stamp - stamp) i2 _ G2 hv2 (by omega) _ []).mono ?_
  rintro r h' ⟨G3, L', rfl, hg3, ys3, hys3, rfl⟩
  refine ⟨grow_L (hg1.trans (hg2.trans hg3)) (.cons _ (List.Sublist.refl _)), ?_⟩
  refine sI ?_
  (intros; try refine go_st ?_); refine go_x _ (.cons _ (List.Sublist.refl _)) (by decide) ?_; refine sJ c110r10.eq_1 ?_
  intro bk hbk
  refine ⟨grow_L (fun _ _ h => h) (.cons _ (.cons _ (List.Sublist.refl _))), ?_⟩
  refine sI ?_
  refine app8 (L1 := []) (L2 := [_]) (x := b) rfl rfl hys3 (by simp; omega) fun A' c' zc' hzc => ?_
  refine sI ?_
  refine ⟨grow_L (fun _ _ h => h) (.cons _ (.cons _ (List.Sublist.refl _))), ?_⟩
  refine sI ?_
  refine callsH_gx F125.enters (gx_slv_at [_] _ (by decide) hzc) ?_
  rintro h' ⟨G4, rfl, hg4, hv4⟩
  refine (PutText_ok _ x.key _ G4 hv4 (by simp; omega) (by omega) _ []).mono ?_
  rintro r h' ⟨G5, L', rfl, hg5, ys5, hys5, rfl⟩
  refine ⟨grow_L (hg4.trans hg5) (.cons _ (.cons _ (List.Sublist.refl _))), ?_⟩
  refine sI ?_
  have l3 := ptB_len x.key
  refine callsH_gx F125.enters (gx_slv_at [] _ (by decide) hys5) ?_
  rintro h' ⟨G6, rfl, hg6, hv6⟩
  refine (PutText_ok _ x.val _ G6 hv6 (by simp; omega) (by omega) _ []).mono ?_
  rintro r h' ⟨G7, L', rfl, hg7, ys7, hys7, rfl⟩
  refine ⟨grow_L (hg4.trans (hg5.trans (hg6.trans hg7))) (.cons _ (.cons _ (List.Sublist.refl _))), ?_⟩
  refine sI ?_
  (intros; try refine go_st ?_)
  refine go_ret (retQ_o _ rfl (.cons_cons _ (List.nil_sublist _)) (noRegs_row noRegs_nil) ?_)
  rw [hput]
  subst hb
  exact ⟨_, rfl, ys7, hys7, rfl⟩
 intros; refine gr 0 0 ?_; refine sJ c110r6.eq_1 ?_
 intros; refine gr 0 0 ?_; refine sJ c110r7.eq_1 ?_
 intros; refine gc ?_; refine sI ?_
 refine gb (fun h5 => ?_) (fun h5 => ?_)
 ·intros; refine gr 0 0 ?_; refine sJ c110r8.eq_1 ?_
  (repeat first | (with_reducible intro _) | refine go_skip ?_ | refine go_b ?_)
  refine hrest _ 1 (by rw [if_pos h5]) ?_ ?_ ?_ <;> (refine sI ?_; try with_reducible exact True.intro)
  rfl
 ·(repeat first | refine go_skip ?_ | refine go_b ?_)
  refine hrest _ 0 (by rw [if_neg (by rw [h5]; simp)]) ?_ ?_ ?_ <;> (refine sI ?_; try with_reducible exact True.intro)
  rfl
theorem F107 : Fun Tryz.prog 107 14 v107 c107 o107 := Fun.mk' Tryz.func107 Tryz.ntmps107 (by kernel_rfl) (by kernel_rfl) s107 q107
theorem F122 : Fun Tryz.prog 122 25 v122 c122 o122 := Fun.mk' Tryz.func122 Tryz.ntmps122 (by kernel_rfl) (by kernel_rfl) s122 q122
theorem F123 : Fun Tryz.prog 123 25 v123 c123 o123 := Fun.mk' Tryz.func123 Tryz.ntmps123 (by kernel_rfl) (by kernel_rfl) s123 q123
theorem F95 : Fun Tryz.prog 95 12 v95 c95 o95 := Fun.mk' Tryz.func95 Tryz.ntmps95 (by kernel_rfl) (by kernel_rfl) s95 q95
def IE (x : Int) (cs : List Value) : Prop := cs = [.int .i64 x] ∧ I64 x
def rng (m n : Int) : Bool := decide (0 ≤ n) && decide (n ≤ m)
theorem rin_ok (n m : Int) (G : Nat → Option Obj) : FnS Tryz.prog 95 #[.int .i64 n, .int .i64 m] G (.bool (rng m n)) := by
 refine F95.fnS (by simp) (go_of ?_)
 unfold c95
 intros; refine gr 0 0 ?_; refine sJ c95r0.eq_1 ?_
 intros; refine gr 5 12 ?_; refine sJ c95r1.eq_1 ?_
 refine gd (fun h1 => ?_) (fun h1 => ?_)
 ·refine sI ?_
  intros; refine rV ?_; simp only [push_cast, Nat.reduceBEq]
  have : 0 ≤ n := by simpa using h1
  simp [rng, this]
 ·refine sI ?_
  intros; refine rV ?_; simp only [push_cast, Nat.reduceBEq]
  have : ¬ 0 ≤ n := by simpa using h1
  simp [rng, this]
theorem take1 {l : List Int} {k : Nat} {x y : Int} (h0 : l[0]? = some y) (hx : l[k]? = some x) (f : Int → Int → Int) (hk : 0 < k) : ((l.drop 1).take k).foldl f y = f (((l.drop 1).take (k - 1)).foldl f y) x := by
 have hl := List.getElem?_eq_some_iff.1 hx
 obtain ⟨k, rfl⟩ : ∃ j, k = j + 1 := ⟨k - 1, by omega⟩
 have h1 : (l.drop 1)[k]? = some x := by rw [List.getElem?_drop, Nat.add_comm]; exact hx
 have h2 := List.getElem?_eq_some_iff.1 h1
 rw [List.take_succ_eq_append_getElem h2.1, h2.2]
 simp
theorem Min_ok (l : List Int) (y : Int) (h0 : l[0]? = some y) (v : Value) (G : Nat → Option Obj) (hl : SlV G IE 1 v l) : FnS Tryz.prog 122 #[v] G (.int .i64 ((l.drop 1).foldl min y)) := by
 refine F122.fnS (by simp) (go_of ?_)
 obtain ⟨A, c, rfl, hc, hm, hA⟩ := hl
 have hpos := (List.getElem?_eq_some_iff.1 h0).1
 unfold c122
 intros; refine gr 0 0 ?_; refine sJ c122r0.eq_1 ?_
 intros; refine gr 5 7 ?_; refine sJ c122r1.eq_1 ?_
 intros; refine gc ?_; refine sI ?_
 refine gb (fun h1 => by simp at h1; omega) (fun h1 => ?_)
 (repeat first | refine go_skip ?_ | refine go_b ?_)
 intros; refine gr 9 12 ?_; refine sJ c122r2.eq_1 ?_
 refine hA.x_l1 h0 rfl rfl ?_
 rintro a1 ha1 u1 ⟨hu, -⟩
 cases hu
 refine sI ?_
 intros; refine gr 0 0 ?_; refine sJ c122r3.eq_1 ?_
 (intros; try refine go_st ?_)
 refine go_loop (fun e h => ∃ k : Nat, (0 < k ∧ k ≤ l.length) ∧ e 4 = .int .i64 k ∧ e 0 = .slice A l.length c ∧ e 3 = .int .i64 (((l.drop 1).take (k - 1)).foldl min y) ∧ h = ⟨G, [], []⟩) (fun e h => l.length - iv (e 4)) ?_ ?_
 ·exact ⟨1, ⟨by omega, by omega⟩, by refine sI ?_; rfl, eE, by refine sI ?_; rfl, rfl⟩
 ·rintro e h ⟨k, ⟨hk0, hk⟩, e4, e0, e3, rfl⟩
  refine go_keep [0, 3, 4] ?_
  refine sJ3 @e0 @e3 @e4 ?_
  intros; refine gr 12 15 ?_; refine sJ c122r4.eq_1 ?_
  intros; refine gc ?_; refine sI ?_
  refine gb (fun ht => ?_) (fun ht => ?_)
  ·have hkl : k < l.length := by simpa using ht
   have hw3 := inc_i k c (by omega) hm
   obtain ⟨x, hx⟩ : ∃ x, l[k]? = some x := ⟨l[k], List.getElem?_eq_getElem (by omega)⟩
   (repeat first | refine go_skip ?_ | refine go_b ?_)
   intros; refine gr 18 24 ?_; refine sJ c122r5.eq_1 ?_
   refine hA.x_l1 hx rfl rfl ?_
   rintro a1 ha1 u1 ⟨hu, -⟩
   cases hu
   refine sI ?_
   intros; refine gr 16 18 ?_; refine sJ2 c122r6.eq_1 @hw3 ?_
   (intros; try refine go_st ?_)
   refine go_l ⟨⟨k + 1, ⟨by omega, by omega⟩, eE, eE, by rw [Nat.add_sub_cancel, take1 h0 hx min hk0]; (refine sI ?_; try with_reducible exact True.intro), rfl⟩, ?_⟩
   refine sI ?_
   omega
  ·have hkl : k = l.length := by simp at ht; omega
   subst hkl
   refine go_exit ?_
   refine sI ?_
   intros; refine gr 24 25 ?_; refine sJ c122r7.eq_1 ?_
   intros; refine rV ?_; simp only [push_cast, Nat.reduceBEq]
   rw [List.take_of_length_le (by simp)]
theorem Max_ok (l : List Int) (y : Int) (h0 : l[0]? = some y) (v : Value) (G : Nat → Option Obj) (hl : SlV G IE 1 v l) : FnS Tryz.prog 123 #[v] G (.int .i64 ((l.drop 1).foldl max y)) := by
 refine F123.fnS (by simp) (go_of ?_)
 obtain ⟨A, c, rfl, hc, hm, hA⟩ := hl
 have hpos := (List.getElem?_eq_some_iff.1 h0).1
 unfold c123
 intros; refine gr 0 0 ?_; refine sJ c123r0.eq_1 ?_
 intros; refine gr 5 7 ?_; refine sJ c123r1.eq_1 ?_
 intros; refine gc ?_; refine sI ?_
 refine gb (fun h1 => by simp at h1; omega) (fun h1 => ?_)
 (repeat first | refine go_skip ?_ | refine go_b ?_)
 intros; refine gr 9 12 ?_; refine sJ c123r2.eq_1 ?_
 refine hA.x_l1 h0 rfl rfl ?_
 rintro a1 ha1 u1 ⟨hu, -⟩
 cases hu
 refine sI ?_
 intros; refine gr 0 0 ?_; refine sJ c123r3.eq_1 ?_
 (intros; try refine go_st ?_)
 refine go_loop (fun e h => ∃ k : Nat, (0 < k ∧ k ≤ l.length) ∧ e 4 = .int .i64 k ∧ e 0 = .slice A l.length c ∧ e 3 = .int .i64 (((l.drop 1).take (k - 1)).foldl max y) ∧ h = ⟨G, [], []⟩) (fun e h => l.length - iv (e 4)) ?_ ?_
 ·exact ⟨1, ⟨by omega, by omega⟩, by refine sI ?_; rfl, eE, by refine sI ?_; rfl, rfl⟩
 ·rintro e h ⟨k, ⟨hk0, hk⟩, e4, e0, e3, rfl⟩
  refine go_keep [0, 3, 4] ?_
  refine sJ3 @e0 @e3 @e4 ?_
  intros; refine gr 12 15 ?_; refine sJ c123r4.eq_1 ?_
  intros; refine gc ?_; refine sI ?_
  refine gb (fun ht => ?_) (fun ht => ?_)
  ·have hkl : k < l.length := by simpa using ht
   have hw3 := inc_i k c (by omega) hm
   obtain ⟨x, hx⟩ : ∃ x, l[k]? = some x := ⟨l[k], List.getElem?_eq_getElem (by omega)⟩
   (repeat first | refine go_skip ?_ | refine go_b ?_)
   intros; refine gr 18 24 ?_; refine sJ c123r5.eq_1 ?_
   refine hA.x_l1 hx rfl rfl ?_
   rintro a1 ha1 u1 ⟨hu, -⟩
   cases hu
   refine sI ?_
   intros; refine gr 16 18 ?_; refine sJ2 c123r6.eq_1 @hw3 ?_
   (intros; try refine go_st ?_)
   refine go_l ⟨⟨k + 1, ⟨by omega, by omega⟩, eE, eE, by rw [Nat.add_sub_cancel, take1 h0 hx max hk0]; (refine sI ?_; try with_reducible exact True.intro), rfl⟩, ?_⟩
   refine sI ?_
   omega
  ·have hkl : k = l.length := by simp at ht; omega
   subst hkl
   refine go_exit ?_
   refine sI ?_
   intros; refine gr 24 25 ?_; refine sJ c123r7.eq_1 ?_
   intros; refine rV ?_; simp only [push_cast, Nat.reduceBEq]
   rw [List.take_of_length_le (by simp)]
theorem min_all (m : Int) : ∀ (l : List Int) (y : Int), m ≤ l.foldl min y ↔ m ≤ y ∧ ∀ x ∈ l, m ≤ x
 | [], y => by simp
 | x :: l, y => by
  have h1 : m ≤ min y x ↔ m ≤ y ∧ m ≤ x := by omega
  rw [List.foldl_cons, min_all m l, h1, and_assoc]
  simp
theorem max_all (m : Int) : ∀ (l : List Int) (y : Int), l.foldl max y ≤ m ↔ y ≤ m ∧ ∀ x ∈ l, x ≤ m
 | [], y => by simp
 | x :: l, y => by
  have h1 : max y x ≤ m ↔ y ≤ m ∧ x ≤ m := by omega
  rw [List.foldl_cons, max_all m l, h1, and_assoc]
  simp
theorem within_all (m : Int) (l : List Int) (y : Int) : (decide (0 ≤ l.foldl min y) && decide (l.foldl max y ≤ m)) = (y :: l).all (rng m) := by
 rw [Bool.eq_iff_iff]
 simp only [Bool.and_eq_true, decide_eq_true_eq, min_all, max_all, List.all_eq_true, rng, List.mem_cons]
 constructor
 ·rintro ⟨⟨h1, h2⟩, h3, h4⟩ x (rfl | hx)
  ·exact ⟨h1, h3⟩
  ·exact ⟨h2 x hx, h4 x hx⟩
 ·intro h
  exact ⟨⟨(h y (.inl rfl)).1, fun x hx => (h x (.inr hx)).1⟩, (h y (.inl rfl)).2, fun x hx => (h x (.inr hx)).2⟩
theorem within_ok (m : Int) (y : Int) (l : List Int) (v : Value) (G : Nat → Option Obj) (hl : SlV G IE 1 v (y :: l)) : FnS Tryz.prog 107 #[.int .i64 m, v] G (.bool ((y :: l).all (rng m))) := by
 refine F107.fnS (by simp) (go_of ?_)
 rw [← within_all]
 unfold c107
 intros; refine gr 0 0 ?_; refine sJ c107r0.eq_1 ?_
 intros; refine gr 5 14 ?_; refine sJ c107r1.eq_1 ?_
 refine (Min_ok (y :: l) y rfl v G hl _ _).mono ?_; rintro _ _ ⟨rfl, rfl⟩; refine sI ?_
 refine gd (fun h1 => ?_) (fun h1 => ?_)
 ·refine sI ?_
  refine (Max_ok (y :: l) y rfl v G hl _ _).mono ?_; rintro _ _ ⟨rfl, rfl⟩; refine sI ?_
  intros; refine rV ?_; simp only [push_cast, Nat.reduceBEq]
  have h1 : 0 ≤ l.foldl min y := by simpa using h1
  simp [h1]
 ·refine sI ?_
  intros; refine rV ?_; simp only [push_cast, Nat.reduceBEq]
  have h1 : ¬ 0 ≤ l.foldl min y := by simpa using h1
  simp [h1]
theorem F92 : Fun Tryz.prog 92 131 v92 c92 o92 := Fun.mk' Tryz.func92 Tryz.ntmps92 (by kernel_rfl) (by kernel_rfl) s92 q92
structure Batch where
 base : Int
 last : Int
 src : Int
 epoch : Int
 pid : Int
 gen : Int
 seq : Int
 txn : Bool
 ctl : Int
 recs : List Rec
def cellH (x : Batch) (v : Value) : List Value := [.int .i64 x.base, .int .i64 x.last, .int .i64 x.src, .int .i64 x.epoch, .int .i64 x.pid, .int .i64 x.gen, .int .i64 x.seq, .bool x.txn, .int .i64 x.ctl, v]
def BE (G : Nat → Option Obj) (x : Batch) (cs : List Value) : Prop :=
 ∃ A c, cs = cellH x (.slice A x.recs.length c) ∧ (x.recs.length ≤ c ∧ c ≤ maxLen ∧ SlA G RR 5 A x.recs) ∧ I64 x.base ∧ I64 x.last ∧ I64 x.src ∧ I64 x.epoch ∧ I64 x.pid ∧ I64 x.gen ∧ I64 x.seq ∧ I64 x.ctl
theorem BE.le {G G' : Nat → Option Obj} (hg : Gle G G') {x : Batch} {cs : List Value} (h : BE G x cs) : BE G' x cs := by
 obtain ⟨A, c, h1, ⟨h2, h3, h4⟩, h5⟩ := h
 exact ⟨A, c, h1, ⟨h2, h3, h4.le hg fun _ _ h => h⟩, h5⟩
def rowF (last : Int) : Int → List Rec → Bool
 | _, [] => true
 | next, r :: rs => decide (chkR r = 0) && decide (next ≤ r.off) && decide (r.off ≤ last) && rowF last (r.off + 1) rs
def Form (b : Batch) : Prop :=
 (rng 1099511627776 b.base = true ∧ rng 1099511627776 b.last = true ∧ rng 1099511627776 b.src = true) ∧ (rng 1048576 b.epoch = true ∧ rng 1048576 b.gen = true ∧ rng 1048576 b.seq = true) ∧
  (b.base ≤ b.last ∧ b.last - b.base < 16 ∧ b.src + (b.last - b.base) ≤ 1099511627776 ∧ b.seq + (b.last - b.base) ≤ 1048576) ∧ (-1 ≤ b.pid ∧ b.pid ≤ 1099511627776) ∧ (b.pid = -1 → b.gen = 0 ∧ b.seq = 0 ∧ b.txn = false ∧ b.ctl = 0) ∧
  ((b.ctl = 0 ∧ rowF b.last b.base b.recs = true) ∨ ((b.ctl = 1 ∨ b.ctl = 2) ∧ b.last - b.base = 0 ∧ b.recs = [] ∧ b.txn = true))
instance decForm (b : Batch) : Decidable (Form b) := by
 unfold Form
 infer_instance
theorem within_row (m : Int) (y : Int) (l : List Int) (v : Value) (n : Nat) (ys : List Value) (hc : Cells IE 1 (y :: l) ys) (G : Nat → Option Obj) (L : List Kx.Item) (D : List Nat) :
  CallsH Tryz.prog 107 #[.int .i64 m, v] ⟨G, .row v 3 1 n ys :: L, D⟩ fun r h' => r = .bool ((y :: l).all (rng m)) ∧ h' = ⟨G, .row v 3 1 n ys :: L, D⟩ :=
 lend1 (E := IE) (xs := y :: l) (R := fun r => r = .bool ((y :: l).all (rng m))) F107.enters (by decide) hc fun G' hg hx => by
  have := within_ok m y l v G' hx L D
  simpa using this
theorem cells3 {a b c : Int} (ha : I64 a) (hb : I64 b) (hc : I64 c) : Cells IE 1 [a, b, c] [.int .i64 a, .int .i64 b, .int .i64 c] :=
 .cons (cs := [.int .i64 a]) ⟨rfl, ha⟩ rfl (.cons (cs := [.int .i64 b]) ⟨rfl, hb⟩ rfl (.one (cs := [.int .i64 c]) ⟨rfl, hc⟩ rfl))
theorem formed_ok (x : Batch) (cs : List Value) (G : Nat → Option Obj) (hx : BE G x cs) : FnS Tryz.prog 92 #[.agg cs.toArray] G (.bool (decide (Form x))) := by
 obtain ⟨A, c, rfl, ⟨hc, hm, hA⟩, i1, i2, i3, i4, i5, i6, i7, i8⟩ := hx
 refine F92.fnS (by simp) (go_of ?_)
 unfold c92 cellH
 intros; refine gr 0 0 ?_; refine sJ c92r0.eq_1 ?_
 have hbad : ∀ (fr : List Td) (e : Env) (L : List Kx.Item), ¬ Form x → go none Tryz.prog 131 v92.1 v92.2 (retQ o92 fun v h => v = .bool (decide (Form x))) (Td.s ((SC.reg false c92r2).seq .ret) :: fr) e ⟨G, L, []⟩ := fun fr e L hx => by
  intros; refine gr 0 0 ?_; refine sJ c92r2.eq_1 ?_
  intros; refine rV ?_; simp only [push_cast, Nat.reduceBEq]
  rw [decide_eq_false hx]
 intros; refine gr 8 26 ?_; refine sJ c92r1.eq_1 ?_
 intro b1 hb1
 refine (within_row 1099511627776 _ _ _ _ _ (cells3 i1 i2 i3) _ _ _).mono ?_; rintro _ _ ⟨rfl, rfl⟩; refine sI ?_
 refine gd (fun h1 => ?_) (fun h1 => ?_)
 ·refine sI ?_
  intros; refine gc ?_; refine sI ?_
  refine hbad _ _ _ fun h => ?_
  simp [h.1.1, h.1.2.1, h.1.2.2] at h1
 refine sI ?_
 intro b2 hb2
 refine (within_row 1048576 _ _ _ _ _ (cells3 i4 i6 i7) _ _ _).mono ?_; rintro _ _ ⟨rfl, rfl⟩; refine sI ?_
 intros; refine gc ?_; refine sI ?_
 refine gb (fun h2 => ?_) (fun h2 => ?_)
 ·refine hbad _ _ _ fun h => ?_
  simp [h.2.1.1, h.2.1.2.1, h.2.1.2.2] at h2
 have h1 : rng 1099511627776 x.base = true ∧ rng 1099511627776 x.last = true ∧ rng 1099511627776 x.src = true := by simpa using h1
 have h2 : rng 1048576 x.epoch = true ∧ rng 1048576 x.gen = true ∧ rng 1048576 x.seq = true := by simpa using h2
 have h1' := h1
 have h2' := h2
 simp [rng] at h1' h2'
 have w1 : IntKind.i64.wrap (x.last - x.base) = x.last - x.base := by rw [w64_id] <;> omega
 (repeat first | refine go_skip ?_ | refine go_b ?_)
 intros; refine gr 28 32 ?_; refine sJ2 c92r3.eq_1 @w1 ?_
 have hb5 : ∀ (fr : List Td) (e : Env) (L : List Kx.Item), ¬ Form x → go none Tryz.prog 131 v92.1 v92.2 (retQ o92 fun v h => v = .bool (decide (Form x))) (Td.s ((SC.reg false c92r5).seq .ret) :: fr) e ⟨G, L, []⟩ := fun fr e L hx => by
  intros; refine gr 0 0 ?_; refine sJ c92r5.eq_1 ?_
  intros; refine rV ?_; simp only [push_cast, Nat.reduceBEq]
  rw [decide_eq_false hx]
 have hb7 : ∀ (fr : List Td) (e : Env) (L : List Kx.Item), ¬ Form x → go none Tryz.prog 131 v92.1 v92.2 (retQ o92 fun v h => v = .bool (decide (Form x))) (Td.s ((SC.reg false c92r7).seq .ret) :: fr) e ⟨G, L, []⟩ := fun fr e L hx => by
  intros; refine gr 0 0 ?_; refine sJ c92r7.eq_1 ?_
  intros; refine rV ?_; simp only [push_cast, Nat.reduceBEq]
  rw [decide_eq_false hx]
 have hb9 : ∀ (fr : List Td) (e : Env) (L : List Kx.Item), ¬ Form x → go none Tryz.prog 131 v92.1 v92.2 (retQ o92 fun v h => v = .bool (decide (Form x))) (Td.s ((SC.reg false c92r9).seq .ret) :: fr) e ⟨G, L, []⟩ := fun fr e L hx => by
  intros; refine gr 0 0 ?_; refine sJ c92r9.eq_1 ?_
  intros; refine rV ?_; simp only [push_cast, Nat.reduceBEq]
  rw [decide_eq_false hx]
 have hb17 : ∀ (fr : List Td) (e : Env) (L : List Kx.Item), ¬ Form x → go none Tryz.prog 131 v92.1 v92.2 (retQ o92 fun v h => v = .bool (decide (Form x))) (Td.s ((SC.reg false c92r17).seq .ret) :: fr) e ⟨G, L, []⟩ := fun fr e L hx => by
  intros; refine gr 0 0 ?_; refine sJ c92r17.eq_1 ?_
  intros; refine rV ?_; simp only [push_cast, Nat.reduceBEq]
  rw [decide_eq_false hx]
 have w2 : ∀ (h : 0 ≤ x.last - x.base), IntKind.i64.wrap (x.src + (x.last - x.base)) = x.src + (x.last - x.base) := fun h => by rw [w64_id] <;> omega
 have w3 : ∀ (h : 0 ≤ x.last - x.base), IntKind.i64.wrap (x.seq + (x.last - x.base)) = x.seq + (x.last - x.base) := fun h => by rw [w64_id] <;> omega
 have w4 : IntKind.i64.wrap (x.gen + x.seq) = x.gen + x.seq := by rw [w64_id] <;> omega
 intros; refine gr 33 53 ?_; refine sJ c92r4.eq_1 ?_
 refine gd (fun h3 => ?_) (fun h3 => ?_)
 ·refine sI ?_
  intros; refine gc ?_; refine sI ?_
  exact hb5 _ _ _ fun h => by have := of_decide_eq_true h3; have := h.2.2.1.1; omega
 have h3 := of_decide_eq_false h3
 refine sI ?_
 refine gd (fun h4 => ?_) (fun h4 => ?_)
 ·refine sI ?_
  intros; refine gc ?_; refine sI ?_
  exact hb5 _ _ _ fun h => by have := of_decide_eq_true h4; have := h.2.2.1.2.1; omega
 have h4 := of_decide_eq_false h4
 (refine sJ (w2 (by omega)) ?_)
 refine gd (fun h5 => ?_) (fun h5 => ?_)
 ·refine sI ?_
  intros; refine gc ?_; refine sI ?_
  exact hb5 _ _ _ fun h => by have := of_decide_eq_true h5; have := h.2.2.1.2.2.1; omega
 have h5 := of_decide_eq_false h5
 (refine sJ (w3 (by omega)) ?_)
 intros; refine gc ?_; refine sI ?_
 refine gb (fun h6 => ?_) (fun h6 => ?_)
 ·exact hb5 _ _ _ fun h => by have := of_decide_eq_true h6; have := h.2.2.1.2.2.2; omega
 have h6 := of_decide_eq_false h6
 intros; refine gr 55 62 ?_; refine sJ c92r6.eq_1 ?_
 refine gd (fun h7 => ?_) (fun h7 => ?_)
 ·refine sI ?_
  intros; refine gc ?_; refine sI ?_
  exact hb7 _ _ _ fun h => by have := of_decide_eq_true h7; have := h.2.2.2.1.1; omega
 have h7 := of_decide_eq_false h7
 refine sI ?_
 intros; refine gc ?_; refine sI ?_
 refine gb (fun h8 => ?_) (fun h8 => ?_)
 ·exact hb7 _ _ _ fun h => by have := of_decide_eq_true h8; have := h.2.2.2.1.2; omega
 have h8 := of_decide_eq_false h8
 intros; refine gr 64 83 ?_; refine sJ c92r8.eq_1 ?_
 have hrest : ∀ (e : Env), (x.pid = -1 → x.gen = 0 ∧ x.seq = 0 ∧ x.txn = false ∧ x.ctl = 0) → e 3 = .int .i64 (x.last - x.base) →
   go none Tryz.prog 131 v92.1 v92.2 (retQ o92 fun v h => v = .bool (decide (Form x))) [Td.s (((SC.reg false c92r10).seq (SC.blk 1 ((SC.reg false c92r11).seq (SC.cond (O.t 85) ((SC.reg false c92r12).seq (((SC.reg false c92r13).seq (SC.blk 2 ((SC.reg false c92r14).seq ((SC.cond (O.t 93) SC.skip (SC.exit 2)).seq ((SC.blk 3 ((SC.reg false c92r15).seq (((SC.reg false c92r16).seq (SC.cond (O.t 111) ((SC.reg false c92r17).seq SC.ret) SC.skip)).seq (SC.reg false c92r18)))).seq (SC.reg false c92r19)))).loop)).seq ((SC.reg false c92r20).seq SC.ret))) (((SC.reg false c92r21).seq (SC.cond (O.t 116) SC.skip (SC.reg false c92r22))).seq (SC.cond (O.t 116) ((SC.reg false c92r23).seq SC.ret) SC.skip)))))).seq ((SC.reg false c92r24).seq SC.ret))] e ⟨G, [.reg 1 [.int .i64 x.base, .int .i64 x.last, .int .i64 x.src, .int .i64 x.epoch, .int .i64 x.pid, .int .i64 x.gen, .int .i64 x.seq, .bool x.txn, .int .i64 x.ctl, .slice A x.recs.length c]], []⟩ := fun e hpid e3 => by
  refine go_keep [3] ?_
  refine sJ @e3 ?_
  intros; refine gr 0 0 ?_; refine sJ c92r10.eq_1 ?_
  intros; refine gr 86 87 ?_; refine sJ c92r11.eq_1 ?_
  intros; refine gc ?_; refine sI ?_
  have hmk : ((x.ctl = 0 ∧ rowF x.last x.base x.recs = true) ∨ ((x.ctl = 1 ∨ x.ctl = 2) ∧ x.last - x.base = 0 ∧ x.recs = [] ∧ x.txn = true)) → Form x := fun h => ⟨h1, h2, ⟨by omega, by omega, by omega, by omega⟩, ⟨by omega, by omega⟩, hpid, h⟩
  refine gb (fun k1 => ?_) (fun k1 => ?_)
  ·have k1 := of_decide_eq_true k1
   intros; refine gr 88 89 ?_; refine sJ c92r12.eq_1 ?_
   intros; refine gr 0 0 ?_; refine sJ c92r13.eq_1 ?_
   (intros; try refine go_st ?_)
   refine go_loop (fun e h => ∃ (k : Nat) (nx : Int), (k ≤ x.recs.length ∧ rowF x.last x.base x.recs = rowF x.last nx (x.recs.drop k)) ∧ e 92 = .int .i64 k ∧ e 91 = .int .i64 x.recs.length ∧ e 90 = .slice A x.recs.length c ∧ e 4 = .int .i64 nx ∧ h.G = G ∧ h.D = [] ∧ [.reg 1 [.int .i64 x.base, .int .i64 x.last, .int .i64 x.src, .int .i64 x.epoch, .int .i64 x.pid, .int .i64 x.gen, .int .i64 x.seq, .bool x.txn, .int .i64 x.ctl, .slice A x.recs.length c]].Sublist h.L) (fun e h => x.recs.length - iv (e 92)) ?_ ?_
   ·exact ⟨0, x.base, ⟨Nat.zero_le _, rfl⟩, eE, eE, eE, eE, rfl, rfl, List.Sublist.refl _⟩
   ·rintro e ⟨G', L, D⟩ ⟨k, nx, ⟨hk, hrow⟩, e92, e91, e90, e4, hG, hD, hL⟩
    dsimp only at hG hD hL
    subst hG hD
    refine go_ghost (ghost_sub hL) ?_
    refine go_keep [4, 90, 91, 92] ?_
    refine sJ4 @e4 @e90 @e91 @e92 ?_
    intros; refine gr 0 0 ?_; refine sJ c92r14.eq_1 ?_
    intros; refine gc ?_; refine sI ?_
    refine gb (fun ht => ?_) (fun ht => ?_)
    ·have hkl : k < x.recs.length := by simpa using ht
     have hw3 := inc_i k c (by omega) hm
     obtain ⟨r, hr⟩ : ∃ r, x.recs[k]? = some r := ⟨x.recs[k], List.getElem?_eq_getElem (by omega)⟩
     have hdr : x.recs.drop k = r :: x.recs.drop (k + 1) := by
      have := List.getElem?_eq_some_iff.1 hr
      rw [List.drop_eq_getElem_cons hkl, this.2]
     rw [hdr] at hrow
     simp only [rowF] at hrow
     have hno : rowF x.last x.base x.recs = false → ¬ Form x := fun h h' => by
      rcases h'.2.2.2.2.2 with h9 | h9
      ·rw [h] at h9; cases h9.2
      ·omega
     intros; refine gr 94 96 ?_; refine sJ c92r15.eq_1 ?_
     refine hA.x_ld hr rfl rfl ?_
     rintro a1 ha1 cs ⟨rfl, ⟨j1, j2⟩, j3, j4⟩
     unfold cellR
     refine sI ?_
     have hck := Check_ok r
     unfold cellR at hck
     intros; refine gr 96 111 ?_; refine sJ c92r16.eq_1 ?_
     refine (hck G' _ _).mono ?_; rintro _ _ ⟨rfl, rfl⟩; refine sI ?_
     refine gd (fun k2 => ?_) (fun k2 => ?_)
     ·refine sI ?_
      intros; refine gc ?_; refine sI ?_
      exact hb17 _ _ _ (hno (by rw [hrow]; simp at k2; simp [k2]))
     have k2 : chkR r = 0 := by simpa using k2
     refine sI ?_
     refine gd (fun k3 => ?_) (fun k3 => ?_)
     ·refine sI ?_
      intros; refine gc ?_; refine sI ?_
      exact hb17 _ _ _ (hno (by rw [hrow]; have := of_decide_eq_true k3; simp; omega))
     have k3 := of_decide_eq_false k3
     refine sI ?_
     intros; refine gc ?_; refine sI ?_
     refine gb (fun k4 => ?_) (fun k4 => ?_)
     ·exact hb17 _ _ _ (hno (by rw [hrow]; have := of_decide_eq_true k4; simp; omega))
     have k4 := of_decide_eq_false k4
     have hoff := (chk_small k2).1.1
     simp [inO] at hoff
     have w5 : IntKind.i64.wrap (r.off + 1) = r.off + 1 := by rw [w64_id] <;> omega
     (repeat first | refine go_skip ?_ | refine go_b ?_)
     intros; refine gr 113 115 ?_; refine sJ2 c92r18.eq_1 @w5 ?_
     intros; refine gr 115 116 ?_; refine sJ2 c92r19.eq_1 @hw3 ?_
     (intros; try refine go_st ?_)
     refine go_l ⟨⟨k + 1, r.off + 1, ⟨by omega, by rw [hrow]; simp [k2]; omega⟩, eE, eE, eE, eE, rfl, rfl, .cons _ (List.Sublist.refl _)⟩, ?_⟩
     refine sI ?_
     omega
    ·have hkl : k = x.recs.length := by simp at ht; omega
     subst hkl
     refine go_exit ?_
     refine sI ?_
     intros; refine gr 0 0 ?_; refine sJ c92r20.eq_1 ?_
     intros; refine rV ?_; simp only [push_cast, Nat.reduceBEq]
     rw [List.drop_length] at hrow
     rw [decide_eq_true (hmk (.inl ⟨k1, hrow⟩))]
  ·have k1 := of_decide_eq_false k1
   have hb24 : ∀ (fr : List Td) (e : Env) (L : List Kx.Item), ¬ Form x → go none Tryz.prog 131 v92.1 v92.2 (retQ o92 fun v h => v = .bool (decide (Form x))) (Td.s ((SC.reg false c92r24).seq .ret) :: fr) e ⟨G, L, []⟩ := fun fr e L hx => by
    intros; refine gr 0 0 ?_; refine sJ c92r24.eq_1 ?_
    intros; refine rV ?_; simp only [push_cast, Nat.reduceBEq]
    rw [decide_eq_false hx]
   have hfin : ∀ (fr : List Td) (e : Env), (x.ctl = 1 ∨ x.ctl = 2) → e 3 = .int .i64 (x.last - x.base) → go none Tryz.prog 131 v92.1 v92.2 (retQ o92 fun v h => v = .bool (decide (Form x))) (Td.s ((SC.reg false c92r23).seq .ret) :: fr) e ⟨G, [.reg 1 [.int .i64 x.base, .int .i64 x.last, .int .i64 x.src, .int .i64 x.epoch, .int .i64 x.pid, .int .i64 x.gen, .int .i64 x.seq, .bool x.txn, .int .i64 x.ctl, .slice A x.recs.length c]], []⟩ := fun fr e hc12 e3 => by
    refine go_keep [3] ?_
    refine sJ @e3 ?_
    have hnf : ∀ (_ : ¬ (x.last - x.base = 0 ∧ x.recs = [] ∧ x.txn = true)), decide (Form x) = false := fun hn => decide_eq_false fun h => by
     rcases h.2.2.2.2.2 with h9 | h9
     ·exact k1 h9.1
     ·exact hn h9.2
    intros; refine gr 119 131 ?_; refine sJ c92r23.eq_1 ?_
    refine gd (fun k2 => ?_) (fun k2 => ?_)
    ·have k2 := of_decide_eq_true k2
     refine sI ?_
     refine gd (fun k3 => ?_) (fun k3 => ?_)
     ·have k3 : x.recs = [] := by have := of_decide_eq_true k3; exact List.eq_nil_of_length_eq_zero (by omega)
      refine sI ?_
      intros; refine rV ?_; simp only [push_cast, Nat.reduceBEq]
      cases ht : x.txn with
      | false => rw [hnf fun h => by rw [ht] at h; cases h.2.2]
      | true => rw [decide_eq_true (hmk (.inr ⟨hc12, k2, k3, ht⟩))]
     ·have k3 := of_decide_eq_false k3
      refine sI ?_
      intros; refine rV ?_; simp only [push_cast, Nat.reduceBEq]
      rw [hnf fun h => k3 (by rw [h.2.1]; rfl)]
    ·have k2 := of_decide_eq_false k2
     refine sI ?_
     intros; refine rV ?_; simp only [push_cast, Nat.reduceBEq]
     rw [hnf fun h => k2 h.1]
   intros; refine gr 117 118 ?_; refine sJ c92r21.eq_1 ?_
   intros; refine gc ?_; refine sI ?_
   refine gb (fun k2 => ?_) (fun k2 => ?_)
   ·(repeat first | refine go_skip ?_ | refine go_b ?_)
    intros; refine gc ?_; refine sI ?_
    refine gb (fun _ => ?_) (fun h => by rw [k2] at h; cases h)
    refine hfin _ _ (.inl (of_decide_eq_true k2)) ?_
    (refine sI ?_; try with_reducible exact True.intro)
   ·have k2 := of_decide_eq_false k2
    intros; refine gr 118 119 ?_; refine sJ c92r22.eq_1 ?_
    intros; refine gc ?_; refine sI ?_
    refine gb (fun k3 => ?_) (fun k3 => ?_)
    ·refine hfin _ _ (.inr (of_decide_eq_true k3)) ?_
     (refine sI ?_; try with_reducible exact True.intro)
    ·have k3 := of_decide_eq_false k3
     (repeat first | refine go_skip ?_ | refine go_b ?_)
     refine hb24 _ _ _ fun h => ?_
     rcases h.2.2.2.2.2 with h9 | h9
     ·exact k1 h9.1
     ·rcases h9.1 with h9 | h9
      ·exact k2 h9
      ·exact k3 h9
 refine gd (fun h9 => ?_) (fun h9 => ?_)
 ·have h9 := of_decide_eq_true h9
  refine sJ @w4 ?_
  refine gd (fun h10 => ?_) (fun h10 => ?_)
  ·refine sI ?_
   intros; refine gc ?_; refine sI ?_
   exact hb9 _ _ _ fun h => by have := of_decide_eq_true h10; have := h.2.2.2.2.1 h9; omega
  have h10 := of_decide_eq_false h10
  refine sI ?_
  refine gd (fun h11 => ?_) (fun h11 => ?_)
  ·refine sI ?_
   intros; refine gc ?_; refine sI ?_
   exact hb9 _ _ _ fun h => by have := (h.2.2.2.2.1 h9).2.2.1; rw [h11] at this; cases this
  refine sI ?_
  intros; refine gc ?_; refine sI ?_
  refine gb (fun h12 => ?_) (fun h12 => ?_)
  ·exact hb9 _ _ _ fun h => by have := of_decide_eq_true h12; have := (h.2.2.2.2.1 h9).2.2.2; omega
  have h12 := of_decide_eq_false h12
  (repeat first | refine go_skip ?_ | refine go_b ?_)
  refine go_ghost (ghost_sub (.cons _ (.cons _ (List.Sublist.refl _)))) ?_
  refine hrest _ (fun _ => ⟨by omega, by omega, h11, by omega⟩) ?_
  (refine sI ?_; try with_reducible exact True.intro)
 ·have h9 := of_decide_eq_false h9
  refine sI ?_
  intros; refine gc ?_; refine sI ?_
  (repeat first | refine go_skip ?_ | refine go_b ?_)
  refine go_ghost (ghost_sub (.cons _ (.cons _ (List.Sublist.refl _)))) ?_
  refine hrest _ (fun h => absurd h h9) ?_
  (refine sI ?_; try with_reducible exact True.intro)
theorem F84 : Fun Tryz.prog 84 165 v84 c84 o84 := Fun.mk' Tryz.func84 Tryz.ntmps84 (by kernel_rfl) (by kernel_rfl) s84 q84
theorem rng_f {m n : Int} (h : (!rng m n) = true) : ¬ rng m n = true := by simpa using h
theorem rng_t {m n : Int} (h : (!rng m n) = false) : 0 ≤ n ∧ n ≤ m := by simpa [rng] using h
theorem rng_i {m n : Int} (h : 0 ≤ n ∧ n ≤ m) : rng m n = true := by simp [rng, h]
theorem form_ok (x : Batch) (cs : List Value) (G : Nat → Option Obj) (hx : BE G x cs) : FnS Tryz.prog 84 #[.agg cs.toArray] G (.bool (decide (Form x))) := by
 obtain ⟨A, c, rfl, ⟨hc, hm, hA⟩, i1, i2, i3, i4, i5, i6, i7, i8⟩ := hx
 refine F84.fnS (by simp) (go_of ?_)
 unfold c84 cellH
 intros; refine gr 0 0 ?_; refine sJ c84r0.eq_1 ?_
 have hb2 : ∀ (fr : List Td) (e : Env) (L : List Kx.Item), ¬ Form x → go none Tryz.prog 165 v84.1 v84.2 (retQ o84 fun v h => v = .bool (decide (Form x))) (Td.s ((SC.reg false c84r2).seq .ret) :: fr) e ⟨G, L, []⟩ := fun fr e L hx => by
  intros; refine gr 0 0 ?_; refine sJ c84r2.eq_1 ?_
  intros; refine rV ?_; simp only [push_cast, Nat.reduceBEq]
  rw [decide_eq_false hx]
 have hb5 : ∀ (fr : List Td) (e : Env) (L : List Kx.Item), ¬ Form x → go none Tryz.prog 165 v84.1 v84.2 (retQ o84 fun v h => v = .bool (decide (Form x))) (Td.s ((SC.reg false c84r5).seq .ret) :: fr) e ⟨G, L, []⟩ := fun fr e L hx => by
  intros; refine gr 0 0 ?_; refine sJ c84r5.eq_1 ?_
  intros; refine rV ?_; simp only [push_cast, Nat.reduceBEq]
  rw [decide_eq_false hx]
 have hb7 : ∀ (fr : List Td) (e : Env) (L : List Kx.Item), ¬ Form x → go none Tryz.prog 165 v84.1 v84.2 (retQ o84 fun v h => v = .bool (decide (Form x))) (Td.s ((SC.reg false c84r7).seq .ret) :: fr) e ⟨G, L, []⟩ := fun fr e L hx => by
  intros; refine gr 0 0 ?_; refine sJ c84r7.eq_1 ?_
  intros; refine rV ?_; simp only [push_cast, Nat.reduceBEq]
  rw [decide_eq_false hx]
 have hb15 : ∀ (fr : List Td) (e : Env) (L : List Kx.Item), ¬ Form x → go none Tryz.prog 165 v84.1 v84.2 (retQ o84 fun v h => v = .bool (decide (Form x))) (Td.s ((SC.reg false c84r15).seq .ret) :: fr) e ⟨G, L, []⟩ := fun fr e L hx => by
  intros; refine gr 0 0 ?_; refine sJ c84r15.eq_1 ?_
  intros; refine rV ?_; simp only [push_cast, Nat.reduceBEq]
  rw [decide_eq_false hx]
 intros; refine gr 8 37 ?_; refine sJ c84r1.eq_1 ?_
 refine (rin_ok x.base _ G _ _).mono ?_; rintro _ _ ⟨rfl, rfl⟩; refine sI ?_
 refine gd (fun h1 => ?_) (fun h1 => ?_)
 ·refine sI ?_
  intros; refine gc ?_; refine sI ?_
  exact hb2 _ _ _ fun h => by exact rng_f h1 h.1.1
 have h1 := rng_t h1
 refine sI ?_
 refine (rin_ok x.last _ G _ _).mono ?_; rintro _ _ ⟨rfl, rfl⟩; refine sI ?_
 refine gd (fun h2 => ?_) (fun h2 => ?_)
 ·refine sI ?_
  intros; refine gc ?_; refine sI ?_
  exact hb2 _ _ _ fun h => by exact rng_f h2 h.1.2.1
 have h2 := rng_t h2
 refine sI ?_
 refine (rin_ok x.src _ G _ _).mono ?_; rintro _ _ ⟨rfl, rfl⟩; refine sI ?_
 refine gd (fun h3 => ?_) (fun h3 => ?_)
 ·refine sI ?_
  intros; refine gc ?_; refine sI ?_
  exact hb2 _ _ _ fun h => by exact rng_f h3 h.1.2.2
 have h3 := rng_t h3
 have w1 : IntKind.i64.wrap (x.last - x.base) = x.last - x.base := by rw [w64_id] <;> omega
 refine sI ?_
 refine gd (fun h4 => ?_) (fun h4 => ?_)
 ·refine sI ?_
  intros; refine gc ?_; refine sI ?_
  exact hb2 _ _ _ fun h => by have := of_decide_eq_true h4; have := h.2.2.1.1; omega
 have h4 := of_decide_eq_false h4
 refine sJ @w1 ?_
 intros; refine gc ?_; refine sI ?_
 refine gb (fun h5 => ?_) (fun h5 => ?_)
 ·exact hb2 _ _ _ fun h => by have := of_decide_eq_true h5; have := h.2.2.1.2.1; omega
 have h5 := of_decide_eq_false h5
 (repeat first | refine go_skip ?_ | refine go_b ?_)
 intros; refine gr 39 43 ?_; refine sJ2 c84r3.eq_1 @w1 ?_
 have w2 : IntKind.i64.wrap (x.src + (x.last - x.base)) = x.src + (x.last - x.base) := by rw [w64_id] <;> omega
 intros; refine gr 44 72 ?_; refine sJ2 c84r4.eq_1 @w2 ?_
 refine gd (fun h6 => ?_) (fun h6 => ?_)
 ·refine sI ?_
  intros; refine gc ?_; refine sI ?_
  exact hb5 _ _ _ fun h => by have := of_decide_eq_true h6; have := h.2.2.1.2.2.1; omega
 have h6 := of_decide_eq_false h6
 refine sI ?_
 refine (rin_ok x.epoch _ G _ _).mono ?_; rintro _ _ ⟨rfl, rfl⟩; refine sI ?_
 refine gd (fun h7 => ?_) (fun h7 => ?_)
 ·refine sI ?_
  intros; refine gc ?_; refine sI ?_
  exact hb5 _ _ _ fun h => by exact rng_f h7 h.2.1.1
 have h7 := rng_t h7
 refine sI ?_
 refine (rin_ok x.gen _ G _ _).mono ?_; rintro _ _ ⟨rfl, rfl⟩; refine sI ?_
 refine gd (fun h8 => ?_) (fun h8 => ?_)
 ·refine sI ?_
  intros; refine gc ?_; refine sI ?_
  exact hb5 _ _ _ fun h => by exact rng_f h8 h.2.1.2.1
 have h8 := rng_t h8
 refine sI ?_
 refine (rin_ok x.seq _ G _ _).mono ?_; rintro _ _ ⟨rfl, rfl⟩; refine sI ?_
 refine gd (fun h9 => ?_) (fun h9 => ?_)
 ·refine sI ?_
  intros; refine gc ?_; refine sI ?_
  exact hb5 _ _ _ fun h => by exact rng_f h9 h.2.1.2.2
 have h9 := rng_t h9
 have w3 : IntKind.i64.wrap (x.seq + (x.last - x.base)) = x.seq + (x.last - x.base) := by rw [w64_id] <;> omega
 refine sJ @w3 ?_
 intros; refine gc ?_; refine sI ?_
 refine gb (fun k1 => ?_) (fun k1 => ?_)
 ·exact hb5 _ _ _ fun h => by have := of_decide_eq_true k1; have := h.2.2.1.2.2.2; omega
 have k1 := of_decide_eq_false k1
 (repeat first | refine go_skip ?_ | refine go_b ?_)
 have hrest : ∀ (e : Env), (x.pid = -1 → x.gen = 0 ∧ x.seq = 0 ∧ x.txn = false ∧ x.ctl = 0) → (-1 ≤ x.pid ∧ x.pid ≤ 1099511627776) → e 3 = .int .i64 (x.last - x.base) →
   go none Tryz.prog 165 v84.1 v84.2 (retQ o84 fun v h => v = .bool (decide (Form x))) [Td.s (((SC.reg false c84r8).seq (SC.cond (O.t 108) ((SC.reg false c84r9).seq SC.ret) SC.skip)).seq ((SC.reg false c84r10).seq (((SC.reg false c84r11).seq (SC.blk 0 ((SC.reg false c84r12).seq ((SC.cond (O.t 143) SC.skip (SC.exit 0)).seq ((SC.blk 1 ((SC.reg false c84r13).seq (((SC.reg false c84r14).seq (SC.cond (O.t 161) ((SC.reg false c84r15).seq SC.ret) SC.skip)).seq (SC.reg false c84r16)))).seq (SC.reg false c84r17)))).loop)).seq ((SC.reg false c84r18).seq SC.ret))))] e ⟨G, [.reg 1 [.int .i64 x.base, .int .i64 x.last, .int .i64 x.src, .int .i64 x.epoch, .int .i64 x.pid, .int .i64 x.gen, .int .i64 x.seq, .bool x.txn, .int .i64 x.ctl, .slice A x.recs.length c]], []⟩ := fun e hpid hpr e3 => by
  refine go_keep [3] ?_
  refine sJ @e3 ?_
  have hmk : ((x.ctl = 0 ∧ rowF x.last x.base x.recs = true) ∨ ((x.ctl = 1 ∨ x.ctl = 2) ∧ x.last - x.base = 0 ∧ x.recs = [] ∧ x.txn = true)) → Form x := fun h => ⟨⟨rng_i h1, rng_i h2, rng_i h3⟩, ⟨rng_i h7, rng_i h8, rng_i h9⟩, ⟨by omega, by omega, by omega, by omega⟩, hpr, hpid, h⟩
  intros; refine gr 107 108 ?_; refine sJ c84r8.eq_1 ?_
  intros; refine gc ?_; refine sI ?_
  refine gb (fun k2 => ?_) (fun k2 => ?_)
  ·have k2 := of_decide_eq_true k2
   have hnf : ∀ (_ : ¬ ((x.ctl = 1 ∨ x.ctl = 2) ∧ x.last - x.base = 0 ∧ x.recs = [] ∧ x.txn = true)), decide (Form x) = false := fun hn => decide_eq_false fun h => by
    rcases h.2.2.2.2.2 with h9 | h9
    ·exact k2 h9.1
    ·exact hn h9
   have hp0 : 0 ≤ x.pid := by
    by_cases hp : x.pid = -1
    ·exact absurd (hpid hp).2.2.2 k2
    ·omega
   intros; refine gr 110 136 ?_; refine sJ c84r9.eq_1 ?_
   have hfin : ∀ (l : List SI), True := fun _ => trivial
   refine gd (fun k3 => ?_) (fun k3 => ?_)
   ·have k3 := of_decide_eq_true k3
    refine sI ?_
    refine gd (fun a1 => ?_) (fun a1 => ?_)
    ·have a1 := of_decide_eq_true a1
     refine sI ?_
     refine gd (fun a2 => ?_) (fun a2 => ?_)
     ·have a2 : x.recs = [] := by have := of_decide_eq_true a2; exact List.eq_nil_of_length_eq_zero (by omega)
      refine sI ?_
      refine gd (fun a3 => ?_) (fun a3 => ?_)
      ·refine sI ?_
       intros; refine rV ?_; simp only [push_cast, Nat.reduceBEq]
       rw [decide_eq_true hp0, decide_eq_true (hmk (.inr ⟨.inl k3, a1, a2, a3⟩))]
      ·refine sI ?_
       intros; refine rV ?_; simp only [push_cast, Nat.reduceBEq]
       rw [hnf fun h => by rw [a3] at h; cases h.2.2.2]
     ·have a2 := of_decide_eq_false a2
      refine sI ?_
      intros; refine rV ?_; simp only [push_cast, Nat.reduceBEq]
      rw [hnf fun h => a2 (by rw [h.2.2.1]; rfl)]
    ·have a1 := of_decide_eq_false a1
     refine sI ?_
     intros; refine rV ?_; simp only [push_cast, Nat.reduceBEq]
     rw [hnf fun h => a1 h.2.1]
   ·have k3 := of_decide_eq_false k3
    refine sI ?_
    refine gd (fun k4 => ?_) (fun k4 => ?_)
    ·have k4 := of_decide_eq_true k4
     refine sI ?_
     refine gd (fun a1 => ?_) (fun a1 => ?_)
     ·have a1 := of_decide_eq_true a1
      refine sI ?_
      refine gd (fun a2 => ?_) (fun a2 => ?_)
      ·have a2 : x.recs = [] := by have := of_decide_eq_true a2; exact List.eq_nil_of_length_eq_zero (by omega)
       refine sI ?_
       refine gd (fun a3 => ?_) (fun a3 => ?_)
       ·refine sI ?_
        intros; refine rV ?_; simp only [push_cast, Nat.reduceBEq]
        rw [decide_eq_true hp0, decide_eq_true (hmk (.inr ⟨.inr k4, a1, a2, a3⟩))]
       ·refine sI ?_
        intros; refine rV ?_; simp only [push_cast, Nat.reduceBEq]
        rw [hnf fun h => by rw [a3] at h; cases h.2.2.2]
      ·have a2 := of_decide_eq_false a2
       refine sI ?_
       intros; refine rV ?_; simp only [push_cast, Nat.reduceBEq]
       rw [hnf fun h => a2 (by rw [h.2.2.1]; rfl)]
     ·have a1 := of_decide_eq_false a1
      refine sI ?_
      intros; refine rV ?_; simp only [push_cast, Nat.reduceBEq]
      rw [hnf fun h => a1 h.2.1]
    ·have k4 := of_decide_eq_false k4
     refine sI ?_
     intros; refine rV ?_; simp only [push_cast, Nat.reduceBEq]
     rw [hnf fun h => by rcases h.1 with h | h; exact k3 h; exact k4 h]
  ·have k2 : x.ctl = 0 := by simpa using k2
   have w4 : IntKind.i64.wrap (x.base - 1) = x.base - 1 := by rw [w64_id] <;> omega
   (repeat first | refine go_skip ?_ | refine go_b ?_)
   intros; refine gr 137 139 ?_; refine sJ2 c84r10.eq_1 @w4 ?_
   intros; refine gr 0 0 ?_; refine sJ c84r11.eq_1 ?_
   (intros; try refine go_st ?_)
   refine go_loop (fun e h => ∃ (k : Nat) (nx : Int), (k ≤ x.recs.length ∧ rowF x.last x.base x.recs = rowF x.last nx (x.recs.drop k)) ∧ e 142 = .int .i64 k ∧ e 141 = .int .i64 x.recs.length ∧ e 140 = .slice A x.recs.length c ∧ e 4 = .int .i64 (nx - 1) ∧ h.G = G ∧ h.D = [] ∧ [.reg 1 [.int .i64 x.base, .int .i64 x.last, .int .i64 x.src, .int .i64 x.epoch, .int .i64 x.pid, .int .i64 x.gen, .int .i64 x.seq, .bool x.txn, .int .i64 x.ctl, .slice A x.recs.length c]].Sublist h.L) (fun e h => x.recs.length - iv (e 142)) ?_ ?_
   ·exact ⟨0, x.base, ⟨Nat.zero_le _, rfl⟩, eE, eE, eE, eE, rfl, rfl, List.Sublist.refl _⟩
   ·rintro e ⟨G', L, D⟩ ⟨k, nx, ⟨hk, hrow⟩, e142, e141, e140, e4, hG, hD, hL⟩
    dsimp only at hG hD hL
    subst hG hD
    refine go_ghost (ghost_sub hL) ?_
    refine go_keep [4, 140, 141, 142] ?_
    refine sJ4 @e4 @e140 @e141 @e142 ?_
    intros; refine gr 0 0 ?_; refine sJ c84r12.eq_1 ?_
    intros; refine gc ?_; refine sI ?_
    refine gb (fun ht => ?_) (fun ht => ?_)
    ·have hkl : k < x.recs.length := by simpa using ht
     have hw3 := inc_i k c (by omega) hm
     obtain ⟨r, hr⟩ : ∃ r, x.recs[k]? = some r := ⟨x.recs[k], List.getElem?_eq_getElem (by omega)⟩
     have hdr : x.recs.drop k = r :: x.recs.drop (k + 1) := by
      have := List.getElem?_eq_some_iff.1 hr
      rw [List.drop_eq_getElem_cons hkl, this.2]
     rw [hdr] at hrow
     simp only [rowF] at hrow
     have hno : rowF x.last x.base x.recs = false → ¬ Form x := fun h h' => by
      rcases h'.2.2.2.2.2 with h9 | h9
      ·rw [h] at h9; cases h9.2
      ·omega
     intros; refine gr 144 146 ?_; refine sJ c84r13.eq_1 ?_
     refine hA.x_ld hr rfl rfl ?_
     rintro a1 ha1 cs ⟨rfl, ⟨j1, j2⟩, j3, j4⟩
     unfold cellR
     refine sI ?_
     have hck := RCheck_ok r
     unfold cellR at hck
     intros; refine gr 146 161 ?_; refine sJ c84r14.eq_1 ?_
     refine (hck G' _ _).mono ?_; rintro _ _ ⟨rfl, rfl⟩; refine sI ?_
     refine gd (fun k3 => ?_) (fun k3 => ?_)
     ·refine sI ?_
      intros; refine gc ?_; refine sI ?_
      exact hb15 _ _ _ (hno (by rw [hrow]; simp at k3; simp [k3]))
     have k3 : chkR r = 0 := by simpa using k3
     refine sI ?_
     refine gd (fun k4 => ?_) (fun k4 => ?_)
     ·refine sI ?_
      intros; refine gc ?_; refine sI ?_
      exact hb15 _ _ _ (hno (by rw [hrow]; have := of_decide_eq_true k4; simp; omega))
     have k4 := of_decide_eq_false k4
     refine sI ?_
     intros; refine gc ?_; refine sI ?_
     refine gb (fun k5 => ?_) (fun k5 => ?_)
     ·exact hb15 _ _ _ (hno (by rw [hrow]; have := of_decide_eq_true k5; simp; omega))
     have k5 := of_decide_eq_false k5
     have hoff : r.off = r.off + 1 - 1 := by omega
     (repeat first | refine go_skip ?_ | refine go_b ?_)
     intros; refine gr 163 164 ?_; refine sJ c84r16.eq_1 ?_
     intros; refine gr 164 165 ?_; refine sJ2 c84r17.eq_1 @hw3 ?_
     (intros; try refine go_st ?_)
     refine go_l ⟨⟨k + 1, r.off + 1, ⟨by omega, by rw [hrow]; simp [k3]; omega⟩, eE, eE, eE, by rw [← hoff]; (refine sI ?_; try with_reducible exact True.intro), rfl, rfl, .cons _ (List.Sublist.refl _)⟩, ?_⟩
     refine sI ?_
     omega
    ·have hkl : k = x.recs.length := by simp at ht; omega
     subst hkl
     refine go_exit ?_
     refine sI ?_
     intros; refine gr 0 0 ?_; refine sJ c84r18.eq_1 ?_
     intros; refine rV ?_; simp only [push_cast, Nat.reduceBEq]
     rw [List.drop_length] at hrow
     rw [decide_eq_true (hmk (.inl ⟨k2, hrow⟩))]
 intros; refine gr 74 105 ?_; refine sJ c84r6.eq_1 ?_
 refine gd (fun q1 => ?_) (fun q1 => ?_)
 ·have q1 := of_decide_eq_true q1
  refine sI ?_
  refine gd (fun q2 => ?_) (fun q2 => ?_)
  ·refine sI ?_
   intros; refine gc ?_; refine sI ?_
   exact hb7 _ _ _ fun h => by have := of_decide_eq_true q2; exact this (h.2.2.2.2.1 q1).1
  have q2 := of_decide_eq_false q2
  refine sI ?_
  refine gd (fun q3 => ?_) (fun q3 => ?_)
  ·refine sI ?_
   intros; refine gc ?_; refine sI ?_
   exact hb7 _ _ _ fun h => by have := of_decide_eq_true q3; exact this (h.2.2.2.2.1 q1).2.1
  have q3 := of_decide_eq_false q3
  refine sI ?_
  refine gd (fun q4 => ?_) (fun q4 => ?_)
  ·refine sI ?_
   intros; refine gc ?_; refine sI ?_
   exact hb7 _ _ _ fun h => by have := (h.2.2.2.2.1 q1).2.2.1; rw [q4] at this; cases this
  refine sI ?_
  refine gd (fun q5 => ?_) (fun q5 => ?_)
  ·refine sI ?_
   intros; refine gc ?_; refine sI ?_
   exact hb7 _ _ _ fun h => by have := of_decide_eq_true q5; exact this (h.2.2.2.2.1 q1).2.2.2
  have q5 := of_decide_eq_false q5
  refine sI ?_
  refine gd (fun q6 => ?_) (fun q6 => ?_)
  ·exact absurd q1 (of_decide_eq_true q6)
  refine sI ?_
  intros; refine gc ?_; refine sI ?_
  (repeat first | refine go_skip ?_ | refine go_b ?_)
  refine hrest _ (fun _ => ⟨by omega, by omega, q4, by omega⟩) (by omega) ?_
  (refine sI ?_; try with_reducible exact True.intro)
 ·have q1 := of_decide_eq_false q1
  refine sI ?_
  refine gd (fun q6 => ?_) (fun q6 => ?_)
  ·refine sI ?_
   refine (rin_ok x.pid _ G _ _).mono ?_; rintro _ _ ⟨rfl, rfl⟩; refine sI ?_
   intros; refine gc ?_; refine sI ?_
   refine gb (fun q7 => ?_) (fun q7 => ?_)
   ·refine hb7 _ _ _ fun h => rng_f q7 (rng_i ?_)
    have := h.2.2.2.1
    omega
   have q7 := rng_t q7
   (repeat first | refine go_skip ?_ | refine go_b ?_)
   refine hrest _ (fun h => absurd h q1) (by omega) ?_
   (refine sI ?_; try with_reducible exact True.intro)
  ·exact absurd (of_decide_eq_false q6) (by simpa using q1)
abbrev W32 := BitVec 32
def vW (v : W32) : Value := .int .u32 (v.toNat : Int)
def poly : W32 := 3988292384#32
def stp (v : W32) : W32 := (v >>> 1) ^^^ (if v.getLsbD 0 = true then poly else 0#32)
def stpN : Nat → W32 → W32
 | 0, v => v
 | n + 1, v => stp (stpN n v)
theorem stp_xor (a b : W32) : stp (a ^^^ b) = stp a ^^^ stp b := by
 unfold stp
 rw [BitVec.ushiftRight_xor_distrib, BitVec.getLsbD_xor]
 generalize a >>> 1 = x
 generalize b >>> 1 = y
 cases a.getLsbD 0 <;> cases b.getLsbD 0 <;> simp
 ·rw [BitVec.xor_assoc]
 ·rw [BitVec.xor_assoc, BitVec.xor_assoc, BitVec.xor_comm poly y]
 ·rw [BitVec.xor_assoc, BitVec.xor_comm poly (y ^^^ poly), BitVec.xor_assoc, BitVec.xor_self, BitVec.xor_zero]
theorem stpN_xor (a b : W32) : ∀ n, stpN n (a ^^^ b) = stpN n a ^^^ stpN n b
 | 0 => rfl
 | n + 1 => by rw [stpN, stpN_xor a b n, stp_xor]; rfl
theorem stp_even {v : W32} (h : v.getLsbD 0 = false) : stp v = v >>> 1 := by rw [stp, if_neg (by rw [h]; simp), BitVec.xor_zero]
theorem stpN_low {v : W32} : ∀ n, (∀ i, i < n → v.getLsbD i = false) → stpN n v = v >>> n
 | 0, _ => by simp [stpN]
 | n + 1, h => by
  rw [stpN, stpN_low n fun i hi => h i (by omega), stp_even (by rw [BitVec.getLsbD_ushiftRight]; exact h _ (by omega))]
  rw [BitVec.shiftRight_add]
theorem stp_four (v : W32) : stpN 4 v = stpN 4 (v &&& 15#32) ^^^ (v >>> 4) := by
 have h1 : v = (v &&& 15#32) ^^^ (v &&& ~~~15#32) := by
  apply BitVec.eq_of_getLsbD_eq
  intro i hi
  simp only [BitVec.getLsbD_xor, BitVec.getLsbD_and, BitVec.getLsbD_not]
  cases v.getLsbD i <;> cases (15#32).getLsbD i <;> simp [hi]
 have h2 : stpN 4 (v &&& ~~~15#32) = v >>> 4 := by
  rw [stpN_low 4]
  ·apply BitVec.eq_of_getLsbD_eq
   intro i hi
   simp only [BitVec.getLsbD_ushiftRight, BitVec.getLsbD_and, BitVec.getLsbD_not]
   by_cases h : 4 + i < 32
   ·have : (15#32).getLsbD (4 + i) = false := by
     rw [BitVec.getLsbD_ofNat]
     have : Nat.testBit 15 (4 + i) = false := Nat.testBit_lt_two_pow (Nat.lt_of_lt_of_le (by decide : 15 < 2 ^ 4) (Nat.pow_le_pow_right (by decide) (by omega)))
     simp [this]
    rw [this]
    simp only [h, decide_true, Bool.not_false, Bool.and_true]
   ·rw [BitVec.getLsbD_of_ge v (4 + i) (by omega)]
    simp
  ·intro i hi
   have : (15#32).getLsbD i = true := by
    match i, hi with
    | 0, _ => rfl
    | 1, _ => rfl
    | 2, _ => rfl
    | 3, _ => rfl
   rw [BitVec.getLsbD_and, BitVec.getLsbD_not, this]
   simp
 conv => lhs; rw [h1, stpN_xor, h2]
theorem stpN_add (v : W32) : ∀ m n, stpN (m + n) v = stpN m (stpN n v)
 | 0, n => by rw [Nat.zero_add]; rfl
 | m + 1, n => by rw [Nat.succ_add, stpN, stpN_add v m n]; rfl
def ofB (b : UInt8) : W32 := BitVec.ofNat 32 b.toNat
def upd (v : W32) (c : UInt8) : W32 := stpN 8 (v ^^^ ofB c)
def half4 (v : W32) : W32 := stpN 4 (v &&& 15#32) ^^^ (v >>> 4)
theorem upd_eq (v : W32) (c : UInt8) : upd v c = half4 (half4 (v ^^^ ofB c)) := by
 rw [half4, ← stp_four, half4, ← stp_four, ← stpN_add]
 rfl
def crcB (l : List UInt8) : W32 := ~~~ (l.foldl upd 4294967295#32)
theorem ofW (a : W32) : BitVec.ofInt 32 (a.toNat : Int) = a := by
 rw [BitVec.ofInt_natCast, BitVec.ofNat_toNat]
 simp
theorem wrapW (a : W32) : IntKind.u32.wrap (a.toNat : Int) = (a.toNat : Int) := by
 have := a.isLt
 simp only [IntKind.wrap, IntKind.bits, IntKind.signed]
 simp
 omega
theorem bin_xorW (a b : W32) : binV .xor (vW a) (vW b) = some (vW (a ^^^ b)) := by
 simp only [binV, vW]
 rw [if_pos trivial]
 have : (BitVec.ofInt IntKind.u32.bits (a.toNat : Int) ^^^ BitVec.ofInt IntKind.u32.bits (b.toNat : Int)).toNat = (a ^^^ b).toNat := by
  show (BitVec.ofInt 32 (a.toNat : Int) ^^^ BitVec.ofInt 32 (b.toNat : Int)).toNat = _
  rw [ofW, ofW]
 rw [this, wrapW]
theorem bin_andW (a b : W32) : binV .and (vW a) (vW b) = some (vW (a &&& b)) := by
 simp only [binV, vW]
 rw [if_pos trivial]
 have : (BitVec.ofInt IntKind.u32.bits (a.toNat : Int) &&& BitVec.ofInt IntKind.u32.bits (b.toNat : Int)).toNat = (a &&& b).toNat := by
  show (BitVec.ofInt 32 (a.toNat : Int) &&& BitVec.ofInt 32 (b.toNat : Int)).toNat = _
  rw [ofW, ofW]
 rw [this, wrapW]
theorem bin_shrW (a : W32) (k : Nat) (hk : k ≤ 32) : binV .shr (vW a) (.int .u64 (k : Int)) = some (vW (a >>> k)) := by
 simp only [binV, vW]
 rw [if_pos (by omega)]
 congr 2
 have h1 : min ((k : Int)).toNat IntKind.u32.bits = k := by simp [IntKind.bits]; omega
 rw [h1, BitVec.toNat_ushiftRight, Nat.shiftRight_eq_div_pow]
 rw [Int.fdiv_eq_ediv_of_nonneg _ (by exact_mod_cast Nat.zero_le _)]
 exact_mod_cast rfl
theorem u8_32 (c : UInt8) : Value.int .u32 (IntKind.u32.wrap (c.toNat : Int)) = vW (ofB c) := by
 have h := c.toNat_lt
 have h2 : (ofB c).toNat = c.toNat := by simp [ofB]
 have := wrapW (ofB c)
 rw [h2] at this
 rw [vW, h2, this]
theorem F143 : Fun Tryz.prog 143 14 v143 c143 o143 := Fun.mk' Tryz.func143 Tryz.ntmps143 (by kernel_rfl) (by kernel_rfl) s143 q143
theorem F135 : Fun Tryz.prog 135 11 v135 c135 o135 := Fun.mk' Tryz.func135 Tryz.ntmps135 (by kernel_rfl) (by kernel_rfl) s135 q135
theorem F127 : Fun Tryz.prog 127 14 v127 c127 o127 := Fun.mk' Tryz.func127 Tryz.ntmps127 (by kernel_rfl) (by kernel_rfl) s127 q127
theorem bit0 (v : W32) : v.getLsbD 0 = true ↔ v.toNat % 2 = 1 := by
 rw [BitVec.getLsbD, Nat.testBit_zero]
 simp
theorem bin_quoW2 (v : W32) : binV .quo (vW v) (.int .u32 2) = some (vW (v >>> 1)) := by
 have h := v.isLt
 refine (bin_quo .u32 v.toNat 2 (by decide) (by simp [IntKind.max, IntKind.signed, IntKind.bits]; omega) rfl).trans ?_
 rw [vW, BitVec.toNat_ushiftRight, Nat.shiftRight_eq_div_pow]
theorem bin_remW2 (v : W32) : binV .rem (vW v) (.int .u32 2) = some (.int .u32 ((v.toNat % 2 : Nat) : Int)) := bin_rem .u32 v.toNat 2 (by decide)
theorem bin_xorP (v : W32) : binV .xor (vW v) (.int .u32 3988292384) = some (vW (v ^^^ poly)) := bin_xorW v poly
theorem bin_eql1 (n : Nat) : binV .eql (.int .u32 (n : Int)) (.int .u32 1) = some (.bool (decide (n = 1))) := by
 simp only [binV]
 rw [if_pos trivial]
 congr 2
 simp
 omega
theorem step_ok (v : W32) (G : Nat → Option Obj) : FnS Tryz.prog 135 #[vW v] G (vW (stp v)) := by
 refine F135.fnS (by simp) (go_of ?_)
 unfold c135
 intros; refine gr 0 0 ?_; refine sJ c135r0.eq_1 ?_
 have hr := bin_remW2 v
 generalize hn : v.toNat % 2 = n at hr
 intros; refine gr 3 5 ?_; refine sJ3 c135r1.eq_1 @hr @bin_eql1 ?_
 intros; refine gc ?_; refine sI ?_
 refine gb (fun h1 => ?_) (fun h1 => ?_)
 ·intros; refine gr 6 9 ?_; refine sJ3 c135r2.eq_1 @bin_quoW2 @bin_xorP ?_
  intros; refine rV ?_; simp only [push_cast, Nat.reduceBEq]
  rw [stp, if_pos ((bit0 v).2 (by rw [hn]; simpa using h1))]
 ·(repeat first | refine go_skip ?_ | refine go_b ?_)
  intros; refine gr 9 11 ?_; refine sJ2 c135r3.eq_1 @bin_quoW2 ?_
  intros; refine rV ?_; simp only [push_cast, Nat.reduceBEq]
  rw [stp, if_neg (fun h => by have := (bit0 v).1 h; rw [hn] at this; simp [this] at h1), BitVec.xor_zero]
theorem steps_ok (v : W32) (n : Nat) (hn : n ≤ 1000) (G : Nat → Option Obj) : FnS Tryz.prog 127 #[vW v, .int .i64 (n : Int)] G (vW (stpN n v)) := by
 refine F127.fnS (by simp) (go_of ?_)
 unfold c127
 intros; refine gr 0 0 ?_; refine sJ c127r0.eq_1 ?_
 intros; refine gr 0 0 ?_; refine sJ c127r1.eq_1 ?_
 (intros; try refine go_st ?_)
 refine go_loop (fun e h => ∃ k : Nat, k ≤ n ∧ e 5 = .int .i64 k ∧ e 1 = .int .i64 n ∧ e 0 = vW (stpN k v) ∧ h = ⟨G, [], []⟩) (fun e h => n - iv (e 5)) ?_ ?_
 ·exact ⟨0, Nat.zero_le _, eE, eE, by refine sI ?_; rfl, rfl⟩
 ·rintro e h ⟨k, hk, e5, e1, e0, rfl⟩
  refine go_keep [0, 1, 5] ?_
  refine sJ3 @e0 @e1 @e5 ?_
  intros; refine gr 6 8 ?_; refine sJ c127r2.eq_1 ?_
  intros; refine gc ?_; refine sI ?_
  refine gb (fun h1 => ?_) (fun h1 => ?_)
  ·have hkn : k < n := by simpa using h1
   have hw3 := inc_i k n (by omega) (by unfold maxLen; omega)
   intros; refine gr 11 13 ?_; refine sJ c127r3.eq_1 ?_
   refine (step_ok (stpN k v) G _ _).mono ?_; rintro _ _ ⟨rfl, rfl⟩; refine sI ?_
   intros; refine gr 9 11 ?_; refine sJ2 c127r4.eq_1 @hw3 ?_
   (intros; try refine go_st ?_)
   refine go_l ⟨⟨k + 1, by omega, eE, eE, by refine sI ?_; rfl, rfl⟩, ?_⟩
   refine sI ?_
   omega
  ·have hkn : k = n := by simp at h1; omega
   subst hkn
   refine go_exit ?_
   refine sI ?_
   intros; refine gr 13 14 ?_; refine sJ c127r5.eq_1 ?_
   intros; refine rV ?_; simp only [push_cast, Nat.reduceBEq]
theorem F134 : Fun Tryz.prog 134 13 v134 c134 o134 := Fun.mk' Tryz.func134 Tryz.ntmps134 (by kernel_rfl) (by kernel_rfl) s134 q134
theorem F144 : Fun Tryz.prog 144 24 v144 c144 o144 := Fun.mk' Tryz.func144 Tryz.ntmps144 (by kernel_rfl) (by kernel_rfl) s144 q144
theorem F126 : Fun Tryz.prog 126 21 v126 c126 o126 := Fun.mk' Tryz.func126 Tryz.ntmps126 (by kernel_rfl) (by kernel_rfl) s126 q126
theorem F116 : Fun Tryz.prog 116 21 v116 c116 o116 := Fun.mk' Tryz.func116 Tryz.ntmps116 (by kernel_rfl) (by kernel_rfl) s116 q116
theorem bin_and1 (v : W32) : binV .and (vW v) (.int .u32 1) = some (vW (v &&& 1#32)) := bin_andW v 1#32
theorem bin_and15 (v : W32) : binV .and (vW v) (.int .u32 15) = some (vW (v &&& 15#32)) := bin_andW v 15#32
theorem bin_Pand (v : W32) : binV .and (.int .u32 3988292384) (vW v) = some (vW (poly &&& v)) := bin_andW poly v
theorem bin_shr1 (v : W32) : binV .shr (vW v) (.int .u64 1) = some (vW (v >>> 1)) := bin_shrW v 1 (by omega)
theorem bin_shr4 (v : W32) : binV .shr (vW v) (.int .u64 4) = some (vW (v >>> 4)) := bin_shrW v 4 (by omega)
theorem un_negW (v : W32) : unV .neg (vW v) = some (vW (-v)) := by
 have := v.isLt
 simp only [unV, vW]
 congr 2
 rw [BitVec.toNat_neg]
 simp only [IntKind.wrap, IntKind.bits, IntKind.signed]
 simp
 omega
theorem un_notW (v : W32) : unV .xor (vW v) = some (vW (~~~v)) := by
 simp only [unV, vW]
 have : (BitVec.ofInt IntKind.u32.bits (if IntKind.u32.signed = true then -1 else IntKind.u32.max) ^^^ BitVec.ofInt IntKind.u32.bits (v.toNat : Int)).toNat = (~~~v).toNat := by
  show (BitVec.ofInt 32 4294967295 ^^^ BitVec.ofInt 32 (v.toNat : Int)).toNat = _
  have h1 : BitVec.ofInt 32 4294967295 = BitVec.allOnes 32 := by decide
  rw [ofW, h1, BitVec.allOnes_xor]
 rw [this, wrapW]
theorem bin_notW (v : W32) : binV .xor (vW v) (.int .u32 4294967295) = some (vW (~~~v)) := by
 have h := bin_xorW v 4294967295#32
 have h1 : (4294967295#32 : W32) = BitVec.allOnes 32 := by decide
 rw [h1, BitVec.xor_allOnes] at h
 exact h
theorem stp_and (v : W32) : (v >>> 1) ^^^ (poly &&& -(v &&& 1#32)) = stp v := by
 have h1 : v &&& 1#32 = if v.getLsbD 0 = true then 1#32 else 0#32 := by
  apply BitVec.eq_of_toNat_eq
  rw [BitVec.toNat_and]
  have : (1#32).toNat = 1 := rfl
  rw [this, Nat.and_one_is_mod]
  by_cases h : v.getLsbD 0 = true
  ·rw [if_pos h, (bit0 v).1 h]; rfl
  ·rw [if_neg h]
   have h3 : ¬ v.toNat % 2 = 1 := fun h9 => h ((bit0 v).2 h9)
   have h2 : v.toNat % 2 = 0 := by omega
   rw [h2]
   rfl
 rw [h1, stp]
 by_cases h : v.getLsbD 0 = true
 ·rw [if_pos h, if_pos h]
  have : poly &&& -1#32 = poly := by decide
  rw [this]
 ·rw [if_neg h, if_neg h]
  have : poly &&& -0#32 = 0#32 := by decide
  rw [this]
theorem half_ok (v : W32) (G : Nat → Option Obj) : FnS Tryz.prog 143 #[vW v] G (vW (stpN 4 v)) := by
 refine F143.fnS (by simp) (go_of ?_)
 unfold c143
 intros; refine gr 0 0 ?_; refine sJ c143r0.eq_1 ?_
 intros; refine gr 0 0 ?_; refine sJ c143r1.eq_1 ?_
 (intros; try refine go_st ?_)
 refine go_loop (fun e h => ∃ k : Nat, k ≤ 4 ∧ e 3 = .int .i64 k ∧ e 0 = vW (stpN k v) ∧ h = ⟨G, [], []⟩) (fun e h => 4 - iv (e 3)) ?_ ?_
 ·exact ⟨0, Nat.zero_le _, eE, by refine sI ?_; rfl, rfl⟩
 ·rintro e h ⟨k, hk, e3, e0, rfl⟩
  refine go_keep [0, 3] ?_
  refine sJ2 @e0 @e3 ?_
  intros; refine gr 0 0 ?_; refine sJ c143r2.eq_1 ?_
  intros; refine gc ?_; refine sI ?_
  refine gb (fun h1 => ?_) (fun h1 => ?_)
  ·have hkn : k < 4 := by simp at h1; omega
   have hw3 := inc_i k 4 (by omega) (by unfold maxLen; omega)
   intros; refine gr 5 12 ?_; refine sJ7 c143r3.eq_1 @bin_shr1 @bin_and1 @un_negW @bin_Pand @bin_xorW @stp_and ?_
   intros; refine gr 12 13 ?_; refine sJ2 c143r4.eq_1 @hw3 ?_
   (intros; try refine go_st ?_)
   refine go_l ⟨⟨k + 1, by omega, eE, by refine sI ?_; rfl, rfl⟩, ?_⟩
   refine sI ?_
   omega
  ·have hkn : k = 4 := by simp at h1; omega
   subst hkn
   refine go_exit ?_
   refine sI ?_
   intros; refine gr 13 14 ?_; refine sJ c143r5.eq_1 ?_
   intros; refine rV ?_; simp only [push_cast, Nat.reduceBEq]
def TabAt (G : Nat → Option Obj) (v : Value) : Prop := ∃ b, v = .pointer (some ⟨b, 0, none⟩) ∧ ∀ i : Nat, i < 16 → cellG G ⟨b, i, none⟩ = some (vW (stpN 4 (BitVec.ofNat 32 i)))
theorem TabAt.le {G G' : Nat → Option Obj} {v : Value} (h : TabAt G v) (hg : Gle G G') : TabAt G' v := by
 obtain ⟨b, h1, h2⟩ := h
 exact ⟨b, h1, fun i hi => cellG_le hg (h2 i hi)⟩
theorem and15 (v : W32) : (v &&& 15#32).toNat < 16 ∧ BitVec.ofNat 32 (v &&& 15#32).toNat = v &&& 15#32 := by
 refine ⟨?_, by simp⟩
 rw [BitVec.toNat_and]
 exact Nat.lt_of_le_of_lt Nat.and_le_right (by decide)
theorem ix_W {b n : Nat} {v : W32} (h : v.toNat < n) : ixPV n 1 (.pointer (some ⟨b, 0, none⟩)) (vW v) = some (.pointer (some ⟨b, v.toNat, none⟩)) := by
 simp only [ixPV, vW]
 rw [if_pos ⟨by omega, by omega⟩]
 simp [add_off]
theorem add_ok (v : W32) (c : UInt8) (p : Value) (G : Nat → Option Obj) (hp : TabAt G p) : FnS Tryz.prog 144 #[vW v, .int .u8 (c.toNat : Int), p] G (vW (upd v c)) := by
 obtain ⟨b, rfl, ht⟩ := hp
 refine F144.fnS (by simp) (go_of ?_)
 unfold c144
 intros; refine gr 0 0 ?_; refine sJ c144r0.eq_1 ?_
 intros; refine gr 6 10 ?_; refine sJ3 c144r1.eq_1 @u8_32 @bin_xorW ?_
 rw [upd_eq]
 generalize v ^^^ ofB c = x
 obtain ⟨g1, g2⟩ := and15 x
 intros; refine gr 10 17 ?_; (try simp -implicitDefEqProofs only [kR_e, kQ_e, push_cast, Nat.reduceBEq, Nat.reduceAdd, Nat.reduceSub, Nat.reduceMul, Nat.reduceLT, Nat.reduceLeDiff, Nat.reduceEqDiff, reduceIte, Bool.not_true, Bool.not_false, true_and, and_true, Option.map_some, Option.bind_some, Int.toNat_natCast, c144r2, bin_and15, ix_W g1])
 refine ⟨_, ⟨_, rfl, .g (ht _ g1)⟩, ?_⟩
 rw [g2]
 refine sJ2 @bin_shr4 @bin_xorW ?_
 rw [← half4]
 generalize half4 x = y
 obtain ⟨k1, k2⟩ := and15 y
 intros; refine gr 17 24 ?_; (try simp -implicitDefEqProofs only [kR_e, kQ_e, push_cast, Nat.reduceBEq, Nat.reduceAdd, Nat.reduceSub, Nat.reduceMul, Nat.reduceLT, Nat.reduceLeDiff, Nat.reduceEqDiff, reduceIte, Bool.not_true, Bool.not_false, true_and, and_true, Option.map_some, Option.bind_some, Int.toNat_natCast, c144r3, bin_and15, ix_W k1])
 refine ⟨_, ⟨_, rfl, .g (ht _ k1)⟩, ?_⟩
 rw [k2]
 refine sJ2 @bin_shr4 @bin_xorW ?_
 intros; refine rV ?_; simp only [push_cast, Nat.reduceBEq]
 rfl
theorem splice1 {cs : List Value} {o : Nat} (x : Value) (h : o < cs.length) : splice cs o [x] = cs.set o x := by
 rw [splice, List.set_eq_take_append_cons_drop, if_pos h]
 simp
theorem adder_ok (G : Nat → Option Obj) : FnD Tryz.prog 134 #[] G (fun G' r => ∃ p, r = .func (.func 144) #[] #[p] ∧ TabAt G' p) := by
 refine F134.fnD (by simp) (go_of ?_)
 unfold c134
 intros; refine gr 0 0 ?_; refine sJ c134r0.eq_1 ?_
 intros; refine gr 0 0 ?_; refine sJ c134r1.eq_1 ?_
 intro b hb
 refine sI ?_
 intros; refine gr 0 0 ?_; refine sJ c134r2.eq_1 ?_
 (intros; try refine go_st ?_)
 refine go_loop (fun e h => ∃ (k : Nat) (cs : List Value), (k ≤ 16 ∧ cs.length = 16 ∧ ∀ i, i < k → cs[i]? = some (vW (stpN 4 (BitVec.ofNat 32 i)))) ∧ e 3 = .int .i64 k ∧ e 1 = .pointer (some ⟨b, 0, none⟩) ∧ h = ⟨G, [.blk b cs], []⟩) (fun e h => 16 - iv (e 3)) ?_ ?_
 ·exact ⟨0, _, ⟨Nat.zero_le _, rfl, fun i hi => by omega⟩, eE, eE, rfl⟩
 ·rintro e h ⟨k, cs, ⟨hk, hl, ht⟩, e3, e1, rfl⟩
  refine go_keep [1, 3] ?_
  refine sJ2 @e1 @e3 ?_
  intros; refine gr 0 0 ?_; refine sJ c134r3.eq_1 ?_
  intros; refine gc ?_; refine sI ?_
  refine gb (fun h1 => ?_) (fun h1 => ?_)
  ·have hkn : k < 16 := by simp at h1; omega
   have hw3 := inc_i k 16 (by omega) (by unfold maxLen; omega)
   have hkw : Value.int .u32 (IntKind.u32.wrap (k : Int)) = vW (BitVec.ofNat 32 k) := by
    have h2 : (BitVec.ofNat 32 k).toNat = k := by simp; omega
    have := wrapW (BitVec.ofNat 32 k)
    rw [h2] at this
    rw [vW, h2, this]
   intros; refine gr 5 6 ?_; refine sJ c134r4.eq_1 ?_
   intros; refine gr 6 11 ?_; refine sJ2 c134r5.eq_1 @hkw ?_
   refine (half_ok (BitVec.ofNat 32 k) G _ _).mono ?_; rintro _ _ ⟨rfl, rfl⟩; refine sI ?_
   refine ⟨by omega, ?_⟩
   refine stX_blk (xs := [vW (stpN 4 (BitVec.ofNat 32 k))]) [] [] rfl (by simp; omega) ⟨rfl, rfl⟩ ?_
   rw [splice1 _ (by omega), show 0 + k * 1 = k by omega]
   refine sI ?_
   intros; refine gr 11 12 ?_; refine sJ2 c134r6.eq_1 @hw3 ?_
   (intros; try refine go_st ?_)
   refine go_l ⟨⟨k + 1, _, ⟨by omega, by simp [hl], fun i hi => ?_⟩, eE, eE, rfl⟩, ?_⟩
   ·rw [List.getElem?_set]
    by_cases hik : k = i
    ·rw [if_pos hik, if_pos (by omega), ← hik]
    ·rw [if_neg hik]; exact ht i (by omega)
   ·refine sI ?_
    omega
  ·have hkn : k = 16 := by simp at h1; omega
   subst hkn
   refine go_exit ?_
   refine sI ?_
   intros; refine gr 12 13 ?_; refine sJ c134r7.eq_1 ?_
   (intros; try refine go_st ?_)
   refine go_gx (gx_blk_at [] []) ?_
   rintro h' ⟨G2, rfl, hg2, hc⟩
   intros; refine rV ?_; simp only [push_cast, Nat.reduceBEq]
   exact ⟨_, rfl, b, rfl, fun i hi => by simpa [add_off] using hc i _ (ht i hi)⟩
theorem fold_succ {l : List UInt8} {k : Nat} {x : UInt8} (hx : l[k]? = some x) (v : W32) : (l.take (k + 1)).foldl upd v = upd ((l.take k).foldl upd v) x := by
 have hk := List.getElem?_eq_some_iff.1 hx
 rw [List.take_succ_eq_append_getElem hk.1, hk.2]
 simp
theorem Sum_ok (l : List UInt8) (v : Value) (G : Nat → Option Obj) (hl : SB G v l) : FnD Tryz.prog 126 #[v] G (fun _ r => r = vW (crcB l)) := by
 refine F126.fnD (by simp) (go_of ?_)
 obtain ⟨A, c, rfl, hc, hm, hA⟩ := hl
 unfold c126
 intros; refine gr 0 0 ?_; refine sJ c126r0.eq_1 ?_
 intros; refine gr 7 8 ?_; refine sJ c126r1.eq_1 ?_
 refine (adder_ok G _ []).mono ?_
 rintro r h' ⟨G1, rfl, hg1, p, rfl, hp⟩
 refine sI ?_
 have hA1 := hA.le hg1 (E' := UE) fun _ _ h => h
 intros; refine gr 0 0 ?_; refine sJ c126r2.eq_1 ?_
 intros; refine gr 0 0 ?_; refine sJ c126r3.eq_1 ?_
 (intros; try refine go_st ?_)
 refine go_loop (fun e h => ∃ k : Nat, k ≤ l.length ∧ e 10 = .int .i64 k ∧ e 9 = .int .i64 l.length ∧ e 8 = .slice A l.length c ∧ e 3 = .func (.func 144) #[] #[p] ∧ e 4 = vW ((l.take k).foldl upd 4294967295#32) ∧ h = ⟨G1, [], []⟩) (fun e h => l.length - iv (e 10)) ?_ ?_
 ·exact ⟨0, Nat.zero_le _, eE, eE, eE, eE, by refine sI ?_; rfl, rfl⟩
 ·rintro e h ⟨k, hk, e10, e9, e8, e3, e4, rfl⟩
  refine go_keep [3, 4, 8, 9, 10] ?_
  refine sJ5 @e3 @e4 @e8 @e9 @e10 ?_
  intros; refine gr 0 0 ?_; refine sJ c126r4.eq_1 ?_
  intros; refine gc ?_; refine sI ?_
  refine gb (fun h1 => ?_) (fun h1 => ?_)
  ·have hkn : k < l.length := by simpa using h1
   have hw3 := inc_i k c (by omega) hm
   obtain ⟨x, hx⟩ : ∃ x, l[k]? = some x := ⟨l[k], List.getElem?_eq_getElem (by omega)⟩
   intros; refine gr 12 14 ?_; refine sJ c126r5.eq_1 ?_
   refine hA1.x_l1 hx rfl rfl ?_
   rintro a1 ha1 u1 hu
   cases hu
   refine sI ?_
   intros; refine gr 14 18 ?_; refine sJ c126r6.eq_1 ?_
   refine .inl ⟨_, _, rfl, (add_ok _ x p G1 hp _ _).mono ?_⟩
   rintro _ _ ⟨rfl, rfl⟩
   refine sI ?_
   intros; refine gr 18 19 ?_; refine sJ2 c126r7.eq_1 @hw3 ?_
   (intros; try refine go_st ?_)
   refine go_l ⟨⟨k + 1, by omega, eE, eE, eE, eE, by rw [fold_succ hx]; (refine sI ?_; try with_reducible exact True.intro), rfl⟩, ?_⟩
   refine sI ?_
   omega
  ·have hkn : k = l.length := by simp at h1; omega
   subst hkn
   refine go_exit ?_
   refine sI ?_
   intros; refine gr 19 21 ?_; refine sJ2 c126r8.eq_1 @un_notW ?_
   intros; refine rV ?_; simp only [push_cast, Nat.reduceBEq]
   rw [List.take_length]
   rfl
theorem RSum_ok (l : List UInt8) (v : Value) (G : Nat → Option Obj) (hl : SB G v l) : FnS Tryz.prog 116 #[v] G (vW (crcB l)) := by
 refine F116.fnS (by simp) (go_of ?_)
 obtain ⟨A, c, rfl, hc, hm, hA⟩ := hl
 unfold c116
 intros; refine gr 0 0 ?_; refine sJ c116r0.eq_1 ?_
 intros; refine gr 0 0 ?_; refine sJ c116r1.eq_1 ?_
 intros; refine gr 0 0 ?_; refine sJ c116r2.eq_1 ?_
 (intros; try refine go_st ?_)
 refine go_loop (fun e h => ∃ k : Nat, k ≤ l.length ∧ e 4 = .int .i64 k ∧ e 0 = .slice A l.length c ∧ e 3 = vW ((l.take k).foldl upd 4294967295#32) ∧ h = ⟨G, [], []⟩) (fun e h => l.length - iv (e 4)) ?_ ?_
 ·exact ⟨0, Nat.zero_le _, eE, eE, by refine sI ?_; rfl, rfl⟩
 ·rintro e h ⟨k, hk, e4, e0, e3, rfl⟩
  refine go_keep [0, 3, 4] ?_
  refine sJ3 @e0 @e3 @e4 ?_
  intros; refine gr 5 8 ?_; refine sJ c116r3.eq_1 ?_
  intros; refine gc ?_; refine sI ?_
  refine gb (fun h1 => ?_) (fun h1 => ?_)
  ·have hkn : k < l.length := by simpa using h1
   have hw3 := inc_i k c (by omega) hm
   obtain ⟨x, hx⟩ : ∃ x, l[k]? = some x := ⟨l[k], List.getElem?_eq_getElem (by omega)⟩
   intros; refine gr 11 19 ?_; refine sJ c116r4.eq_1 ?_
   refine hA.x_l1 hx rfl rfl ?_
   rintro a1 ha1 u1 hu
   cases hu
   refine sJ2 @u8_32 @bin_xorW ?_
   refine (steps_ok _ 8 (by omega) G _ _).mono ?_; rintro _ _ ⟨rfl, rfl⟩; refine sI ?_
   intros; refine gr 9 11 ?_; refine sJ2 c116r5.eq_1 @hw3 ?_
   (intros; try refine go_st ?_)
   refine go_l ⟨⟨k + 1, by omega, eE, eE, by rw [fold_succ hx]; refine sI ?_; rfl, rfl⟩, ?_⟩
   refine sI ?_
   omega
  ·have hkn : k = l.length := by simp at h1; omega
   subst hkn
   refine go_exit ?_
   refine sI ?_
   intros; refine gr 19 21 ?_; refine sJ2 c116r6.eq_1 @bin_notW ?_
   intros; refine rV ?_; simp only [push_cast, Nat.reduceBEq]
   rw [List.take_length]
   rfl
theorem F112 : Fun Tryz.prog 112 33 v112 c112 o112 := Fun.mk' Tryz.func112 Tryz.ntmps112 (by kernel_rfl) (by kernel_rfl) s112 q112
theorem F100 : Fun Tryz.prog 100 41 v100 c100 o100 := Fun.mk' Tryz.func100 Tryz.ntmps100 (by kernel_rfl) (by kernel_rfl) s100 q100
theorem F115 : Fun Tryz.prog 115 15 v115 c115 o115 := Fun.mk' Tryz.func115 Tryz.ntmps115 (by kernel_rfl) (by kernel_rfl) s115 q115
theorem F111 : Fun Tryz.prog 111 9 v111 c111 o111 := Fun.mk' Tryz.func111 Tryz.ntmps111 (by kernel_rfl) (by kernel_rfl) s111 q111
theorem F99 : Fun Tryz.prog 99 10 v99 c99 o99 := Fun.mk' Tryz.func99 Tryz.ntmps99 (by kernel_rfl) (by kernel_rfl) s99 q99
def putN (n k : Nat) : List UInt8 := (List.range k).map fun i => UInt8.ofNat (n / 256 ^ (k - 1 - i))
theorem putN_len (n k : Nat) : (putN n k).length = k := by simp [putN]
theorem putN_take {n k i : Nat} (h : i < k) : (putN n k).take (i + 1) = (putN n k).take i ++ [UInt8.ofNat (n / 256 ^ (k - 1 - i))] := by
 have hl : i < (putN n k).length := by rw [putN_len]; exact h
 rw [List.take_succ_eq_append_getElem hl]
 congr 2
 simp [putN]
def sealB (l : List UInt8) : List UInt8 := l ++ putN (crcB l).toNat 4
theorem bin_shrN (n s : Nat) (hs : s ≤ 64) : binV .shr (.int .u64 (n : Int)) (.int .i64 (s : Int)) = some (.int .u64 ((n / 2 ^ s : Nat) : Int)) := by
 simp only [binV]
 rw [if_pos (by omega)]
 congr 2
 have h1 : min ((s : Int)).toNat IntKind.u64.bits = s := by simp [IntKind.bits]; omega
 rw [h1, Int.fdiv_eq_ediv_of_nonneg _ (by exact_mod_cast Nat.zero_le _)]
 exact_mod_cast rfl
theorem OPut_ok (l : List UInt8) (n k : Nat) (hn : n < 18446744073709551616) (hk : 1 ≤ k ∧ k ≤ 8) (v : Value) (G : Nat → Option Obj) (hl : SB G v l) (hb : l.length ≤ 100000) :
  FnO Tryz.prog 112 #[v, .int .u64 (n : Int), .int .i64 (k : Int)] G [] (fun _ L' r => OwnB (l ++ putN n k) L' r) := by
 refine F112.fnO (by simp) noRegs_nil (go_of ?_)
 have hl0 := hl
 obtain ⟨A, c, rfl, hc, hm, hA⟩ := hl
 unfold c112
 intros; refine gr 0 0 ?_; refine sJ c112r0.eq_1 ?_
 intros; refine gr 9 11 ?_; refine sJ c112r1.eq_1 ?_
 refine (Clone_ok l _ G hl0 (by omega) _ []).mono ?_
 rintro r h' ⟨G1, L', rfl, hg1, ys, hys, rfl⟩
 refine sI ?_
 intros; refine gr 11 16 ?_; refine sJ c112r2.eq_1 ?_
 refine gd (fun h1 => by simp at h1; omega) (fun h1 => ?_)
 refine sI ?_
 intros; refine gc ?_; refine sI ?_
 refine gb (fun h2 => by simp at h2; omega) (fun h2 => ?_)
 have w1 : IntKind.i64.wrap ((k : Int) - 1) = (k : Int) - 1 := by rw [w64_id] <;> omega
 have w2 : IntKind.i64.wrap (8 * ((k : Int) - 1)) = 8 * (k : Int) - 8 := by rw [w64_id] <;> omega
 (repeat first | refine go_skip ?_ | refine go_b ?_)
 intros; refine gr 18 21 ?_; refine sJ3 c112r4.eq_1 @w1 @w2 ?_
 (intros; try refine go_st ?_)
 refine go_loop (fun e h => ∃ (i : Nat) (zc : List Value) (u : Value), (i ≤ k ∧ Cells UE 1 (l ++ (putN n k).take i) zc) ∧ e 8 = .int .i64 (8 * (k : Int) - 8 - 8 * i) ∧ e 1 = .int .u64 (n : Int) ∧ e 7 = u ∧ h.G = G1 ∧ h.D = [] ∧ [Item.row u 5 1 (l ++ (putN n k).take i).length zc].Sublist h.L) (fun e h => iv1 (e 8)) ?_ ?_
 ·exact ⟨0, ys, r, ⟨Nat.zero_le _, by simpa using hys⟩, by refine sI ?_; simp, eE, eE, rfl, rfl, by simp⟩
 ·rintro e ⟨G', L, D⟩ ⟨i, zc, u, ⟨hi, hcs⟩, e8, e1, e7, hG, hD, hL⟩
  dsimp only at hG hD hL
  subst hG hD
  refine go_ghost (ghost_sub hL) ?_
  refine go_keep [1, 7, 8] ?_
  refine sJ3 @e1 @e7 @e8 ?_
  intros; refine gr 21 22 ?_; refine sJ c112r5.eq_1 ?_
  intros; refine gc ?_; refine sI ?_
  refine gb (fun ht => ?_) (fun ht => ?_)
  ·have hik : i < k := by have := of_decide_eq_true ht; omega
   have htk := putN_take (n := n) hik
   have hsh : binV .shr (.int .u64 (n : Int)) (.int .i64 (8 * (k : Int) - 8 - 8 * i)) = some (.int .u64 ((n / 256 ^ (k - 1 - i) : Nat) : Int)) := by
    have e1 : 8 * (k : Int) - 8 - 8 * i = ((8 * (k - 1 - i) : Nat) : Int) := by omega
    rw [e1, bin_shrN n _ (by omega), Nat.pow_mul]
   generalize n / 256 ^ (k - 1 - i) = q at htk hsh
   have w3 : IntKind.i64.wrap (8 * (k : Int) - 8 - 8 * i - 8) = 8 * (k : Int) - 8 - 8 * ((i + 1 : Nat) : Int) := by rw [w64_id] <;> omega
   have hll : (l ++ (putN n k).take i).length ≤ 200000 := by simp [putN_len]; omega
   intros; refine gr 25 32 ?_; refine sJ3 c112r6.eq_1 @hsh @u8_nat ?_
   intro bk hbk
   refine app8 (L1 := []) (L2 := []) rfl rfl hcs (by omega) fun A' c' zc' hzc => ?_
   rw [List.append_assoc, ← htk] at hzc ⊢
   refine sI ?_
   intros; refine gr 23 25 ?_; refine sJ2 c112r7.eq_1 @w3 ?_
   (intros; try refine go_st ?_)
   refine go_l ⟨⟨i + 1, zc', _, ⟨by omega, hzc⟩, eE, eE, eE, rfl, rfl, .cons _ (List.Sublist.refl _)⟩, ?_⟩
   refine sJ @iv1_i ?_
   omega
  ·have hik : i = k := by have := of_decide_eq_false ht; omega
   subst hik
   refine go_exit ?_
   refine sI ?_
   intros; refine gr 32 33 ?_; refine sJ c112r8.eq_1 ?_
   (intros; try refine go_st ?_)
   rw [List.take_of_length_le (by rw [putN_len]; exact Nat.le_refl _)] at hcs ⊢
   refine go_ret (retQ_o _ rfl (List.Sublist.refl _) (noRegs_row noRegs_nil) ?_)
   exact ⟨zc, hcs, rfl⟩
theorem ROPut_ok (l : List UInt8) (n k : Nat) (hn : n < 18446744073709551616) (hk : 1 ≤ k ∧ k ≤ 8) (v : Value) (G : Nat → Option Obj) (hl : SB G v l) (hb : l.length ≤ 100000) :
  FnO Tryz.prog 100 #[v, .int .u64 (n : Int), .int .i64 (k : Int)] G [] (fun _ L' r => OwnB (l ++ putN n k) L' r) := by
 refine F100.fnO (by simp) noRegs_nil (go_of ?_)
 have hl0 := hl
 obtain ⟨A, c, rfl, hc, hm, hA⟩ := hl
 unfold c100
 intros; refine gr 0 0 ?_; refine sJ c100r0.eq_1 ?_
 intros; refine gr 10 12 ?_; refine sJ c100r1.eq_1 ?_
 refine (Copy_ok l _ G hl0 (by omega) _ []).mono ?_
 rintro r h' ⟨G1, L', rfl, hg1, ys, hys, rfl⟩
 refine sI ?_
 intros; refine gr 12 17 ?_; refine sJ c100r2.eq_1 ?_
 refine gd (fun h1 => by simp at h1; omega) (fun h1 => ?_)
 refine sI ?_
 intros; refine gc ?_; refine sI ?_
 refine gb (fun h2 => by simp at h2; omega) (fun h2 => ?_)
 have w1 : IntKind.i64.wrap ((k : Int) - 1) = (k : Int) - 1 := by rw [w64_id] <;> omega
 (repeat first | refine go_skip ?_ | refine go_b ?_)
 intros; refine gr 0 0 ?_; refine sJ c100r4.eq_1 ?_
 (intros; try refine go_st ?_)
 refine go_loop (fun e h => ∃ (i : Nat) (zc : List Value) (u : Value), (i ≤ k ∧ Cells UE 1 (l ++ (putN n k).take i) zc) ∧ e 20 = .int .i64 i ∧ e 19 = .int .i64 k ∧ e 1 = .int .u64 (n : Int) ∧ e 2 = .int .i64 k ∧ e 7 = u ∧ h.G = G1 ∧ h.D = [] ∧ [Item.row u 5 1 (l ++ (putN n k).take i).length zc].Sublist h.L) (fun e h => k - iv (e 20)) ?_ ?_
 ·exact ⟨0, ys, r, ⟨Nat.zero_le _, by simpa using hys⟩, eE, eE, eE, eE, eE, rfl, rfl, by simp⟩
 ·rintro e ⟨G', L, D⟩ ⟨i, zc, u, ⟨hi, hcs⟩, e20, e19, e1, e2, e7, hG, hD, hL⟩
  dsimp only at hG hD hL
  subst hG hD
  refine go_ghost (ghost_sub hL) ?_
  refine go_keep [1, 2, 7, 19, 20] ?_
  refine sJ5 @e1 @e2 @e7 @e19 @e20 ?_
  intros; refine gr 0 0 ?_; refine sJ c100r5.eq_1 ?_
  intros; refine gc ?_; refine sI ?_
  refine gb (fun ht => ?_) (fun ht => ?_)
  ·have hik : i < k := by have := of_decide_eq_true ht; omega
   have hw3 := inc_i i k hik (by unfold maxLen; omega)
   have w2 : IntKind.i64.wrap ((k : Int) - 1 - i) = ((k - 1 - i : Nat) : Int) := by rw [w64_id] <;> omega
   have htk := putN_take (n := n) hik
   have hll : (l ++ (putN n k).take i).length ≤ 200000 := by simp [putN_len]; omega
   generalize hmm : k - 1 - i = m at htk w2
   (repeat first | refine go_skip ?_ | refine go_b ?_)
   intros; refine gr 22 23 ?_; refine sJ c100r6.eq_1 ?_
   intros; refine gr 23 24 ?_; refine sJ c100r7.eq_1 ?_
   intros; refine gr 24 27 ?_; refine sJ3 c100r8.eq_1 @w1 @w2 ?_
   (intros; try refine go_st ?_)
   refine go_loop (fun e h => ∃ j : Nat, j ≤ m ∧ e 28 = .int .i64 j ∧ e 27 = .int .i64 m ∧ (∃ q : Nat, q = n / 256 ^ j ∧ e 9 = .int .u64 (q : Int)) ∧ e 1 = .int .u64 (n : Int) ∧ e 2 = .int .i64 k ∧ e 7 = u ∧ e 19 = .int .i64 k ∧ e 20 = .int .i64 i ∧ h = ⟨G', [.row u 5 1 (l ++ (putN n k).take i).length zc], []⟩) (fun e h => m - iv (e 28)) ?_ ?_
   ·exact ⟨0, Nat.zero_le _, eE, eE, ⟨n, by simp, eE⟩, eE, eE, eE, eE, eE, rfl⟩
   ·rintro e h ⟨j, hj, e28, e27, ⟨q, hq, e9⟩, e1, e2, e7, e19, e20, rfl⟩
    refine go_keep [1, 2, 7, 9, 19, 20, 27, 28] ?_
    (try simp -implicitDefEqProofs only [kR_e, kQ_e, push_cast, Nat.reduceBEq, Nat.reduceAdd, Nat.reduceSub, Nat.reduceMul, Nat.reduceLT, Nat.reduceLeDiff, Nat.reduceEqDiff, reduceIte, Bool.not_true, Bool.not_false, true_and, and_true, Option.map_some, Option.bind_some, Int.toNat_natCast, e1, e2, e7, e9, e19, e20, e27, e28])
    intros; refine gr 0 0 ?_; refine sJ c100r9.eq_1 ?_
    intros; refine gc ?_; refine sI ?_
    have hqn : q ≤ n := by rw [hq]; exact Nat.div_le_self _ _
    refine gb (fun ht => ?_) (fun ht => ?_)
    ·have hjm : j < m := by have := of_decide_eq_true ht; omega
     have hw4 := inc_i j m hjm (by unfold maxLen; omega)
     have hqq : binV .quo (.int .u64 (q : Int)) (.int .u64 256) = some (.int .u64 ((q / 256 : Nat) : Int)) := bin_quo .u64 q 256 (by decide) (by simp [IntKind.max, IntKind.signed, IntKind.bits]; omega) rfl
     have hq2 : q / 256 = n / 256 ^ (j + 1) := by rw [hq, Nat.div_div_eq_div_mul, Nat.pow_succ]
     generalize q / 256 = q2 at hqq hq2
     (repeat first | refine go_skip ?_ | refine go_b ?_)
     intros; refine gr 30 32 ?_; refine sJ2 c100r10.eq_1 @hqq ?_
     intros; refine gr 32 33 ?_; refine sJ2 c100r11.eq_1 @hw4 ?_
     (intros; try refine go_st ?_)
     refine go_l ⟨⟨j + 1, by omega, eE, eE, ⟨q2, hq2, eE⟩, eE, eE, eE, eE, eE, rfl⟩, ?_⟩
     refine sI ?_
     omega
    ·have hjm : j = m := by have := of_decide_eq_false ht; omega
     subst hjm
     rw [← hq] at htk
     have hr : binV .rem (.int .u64 (q : Int)) (.int .u64 256) = some (.int .u64 ((q % 256 : Nat) : Int)) := bin_rem .u64 q 256 (by decide)
     have hw : IntKind.u8.wrap ((q % 256 : Nat) : Int) = ((UInt8.ofNat q).toNat : Int) := by rw [u8_nat]; simp
     generalize q % 256 = q3 at hr hw
     refine go_exit ?_
     refine sI ?_
     intros; refine gr 33 39 ?_; refine sJ2 c100r12.eq_1 @hr ?_
     intro bk hbk
     refine app8 (L1 := []) (L2 := []) rfl hw hcs (by omega) fun A' c' zc' hzc => ?_
     rw [List.append_assoc, ← htk] at hzc ⊢
     refine sI ?_
     intros; refine gr 39 40 ?_; refine sJ2 c100r13.eq_1 @hw3 ?_
     (intros; try refine go_st ?_)
     refine go_l ⟨⟨i + 1, zc', _, ⟨by omega, hzc⟩, eE, eE, eE, eE, eE, rfl, rfl, .cons _ (List.Sublist.refl _)⟩, ?_⟩
     refine sI ?_
     omega
  ·have hik : i = k := by have := of_decide_eq_false ht; omega
   subst hik
   refine go_exit ?_
   refine sI ?_
   intros; refine gr 40 41 ?_; refine sJ c100r14.eq_1 ?_
   (intros; try refine go_st ?_)
   rw [List.take_of_length_le (by rw [putN_len]; exact Nat.le_refl _)] at hcs ⊢
   refine go_ret (retQ_o _ rfl (List.Sublist.refl _) (noRegs_row noRegs_nil) ?_)
   exact ⟨zc, hcs, rfl⟩
theorem sealB_len (l : List UInt8) : (sealB l).length = l.length + 4 := by simp [sealB, putN_len]
theorem u64_W (v : W32) : IntKind.u64.wrap (v.toNat : Int) = (v.toNat : Int) := by
 have := v.isLt
 simp only [IntKind.wrap, IntKind.bits, IntKind.signed]
 simp
 omega
theorem bin_quoW (v : W32) (b : Nat) (hb : b ≠ 0) : binV .quo (.int .u32 (v.toNat : Int)) (.int .u32 (b : Int)) = some (.int .u32 ((v.toNat / b : Nat) : Int)) := by
 have h := v.isLt
 exact bin_quo .u32 v.toNat b hb (by simp [IntKind.max, IntKind.signed, IntKind.bits]; omega) rfl
theorem four_ok (v : W32) (G : Nat → Option Obj) : FnO Tryz.prog 115 #[vW v] G [] (fun _ L' r => OwnB (putN v.toNat 4) L' r) := by
 refine F115.fnO (by simp) noRegs_nil (go_of ?_)
 unfold c115
 unfold vW
 intros; refine gr 0 0 ?_; refine sJ c115r0.eq_1 ?_
 have q1 : binV .quo (.int .u32 (v.toNat : Int)) (.int .u32 16777216) = some (.int .u32 ((v.toNat / 16777216 : Nat) : Int)) := bin_quoW v 16777216 (by decide)
 have q2 : binV .quo (.int .u32 (v.toNat : Int)) (.int .u32 65536) = some (.int .u32 ((v.toNat / 65536 : Nat) : Int)) := bin_quoW v 65536 (by decide)
 have q3 : binV .quo (.int .u32 (v.toNat : Int)) (.int .u32 256) = some (.int .u32 ((v.toNat / 256 : Nat) : Int)) := bin_quoW v 256 (by decide)
 have hput : putN v.toNat 4 = [UInt8.ofNat (v.toNat / 16777216), UInt8.ofNat (v.toNat / 65536), UInt8.ofNat (v.toNat / 256), UInt8.ofNat v.toNat] := by
  simp [putN, List.range_succ]
 rw [hput]
 generalize v.toNat / 16777216 = n1 at q1 ⊢
 generalize v.toNat / 65536 = n2 at q2 ⊢
 generalize v.toNat / 256 = n3 at q3 ⊢
 generalize v.toNat = n4 at *
 intros; refine gr 3 15 ?_; refine sJ5 c115r1.eq_1 @q1 @q2 @q3 @u8_nat ?_
 intro b hb
 (intros; try refine go_st ?_)
 refine go_ret (retQ_o _ rfl (List.Sublist.refl _) (noRegs_row noRegs_nil) ?_)
 exact ⟨_, cells_b [UInt8.ofNat n1, UInt8.ofNat n2, UInt8.ofNat n3, UInt8.ofNat n4], rfl⟩
theorem Seal_ok (l : List UInt8) (v : Value) (G : Nat → Option Obj) (hl : SB G v l) (hb : l.length ≤ 100000) : FnO Tryz.prog 111 #[v] G [] (fun _ L' r => OwnB (sealB l) L' r) := by
 refine F111.fnO (by simp) noRegs_nil (go_of ?_)
 unfold c111
 have hsum := Sum_ok l v G hl
 unfold sealB
 generalize crcB l = w at hsum ⊢
 intros; refine gr 0 0 ?_; refine sJ c111r0.eq_1 ?_
 intros; refine gr 3 9 ?_; refine sJ c111r1.eq_1 ?_
 refine apX_v (.inr ⟨⟨none, rfl⟩, rfl, rfl, rfl, rfl⟩) hl rfl UE1 (by unfold maxLen; omega) fun ys A c hc => ?_
 simp only [Nat.zero_add, List.nil_append]
 refine sI ?_
 refine (hsum _ []).mono ?_
 rintro r h' ⟨G1, rfl, hg1, rfl⟩
 unfold vW
 refine sJ @u64_W ?_
 refine callsH_gx F112.enters (gx_slv_at [] _ (by decide) hc) ?_
 rintro h' ⟨G2, rfl, hg2, hv2⟩
 refine (OPut_ok l w.toNat 4 (by have := w.isLt; omega) (by omega) _ G2 hv2 hb _ []).mono ?_
 rintro r h' ⟨G3, L', rfl, hg3, ys3, hys3, rfl⟩
 refine sI ?_
 (intros; try refine go_st ?_)
 refine go_ret (retQ_o _ rfl (List.Sublist.refl _) (noRegs_row noRegs_nil) ?_)
 exact ⟨ys3, hys3, rfl⟩
theorem RSeal_ok (l : List UInt8) (v : Value) (G : Nat → Option Obj) (hl : SB G v l) (hb : l.length ≤ 100000) : FnO Tryz.prog 99 #[v] G [] (fun _ L' r => OwnB (sealB l) L' r) := by
 refine F99.fnO (by simp) noRegs_nil (go_of ?_)
 unfold c99
 have hsum := RSum_ok l v G hl
 unfold sealB
 generalize crcB l = w at hsum ⊢
 intros; refine gr 0 0 ?_; refine sJ c99r0.eq_1 ?_
 intros; refine gr 3 10 ?_; refine sJ c99r1.eq_1 ?_
 intro b0 hb0
 refine apX_v (.inr ⟨⟨_, rfl⟩, rfl, rfl, rfl, rfl⟩) hl rfl UE1 (by unfold maxLen; omega) fun ys A c hc => ?_
 simp only [Nat.zero_add, List.nil_append]
 refine sI ?_
 refine (hsum _ _).mono ?_; rintro _ _ ⟨rfl, rfl⟩; refine sI ?_
 refine (ownL_d (by decide) (four_ok w G) _ []).mono ?_
 rintro r h' ⟨G1, rfl, hg1, hv1⟩
 refine sI ?_
 refine apX_v (L1 := []) (.inl rfl) hv1 rfl UE1 (by rw [putN_len]; unfold maxLen; omega) fun ys' A' c' hc' => ?_
 have hh := hc.app hc'
 refine sI ?_
 (intros; try refine go_st ?_)
 refine go_ret (retQ_o _ rfl (List.Sublist.refl _) (noRegs_row noRegs_nil) ?_)
 rw [← List.length_append]
 exact ⟨_, hh, rfl⟩
def headN (b : Batch) : List Int := [b.base, b.last - b.base, b.src, b.epoch, b.pid, b.gen, b.seq]
def headB (l : List Int) : List UInt8 := l.flatMap pvB
def markB (b : Batch) : UInt8 := UInt8.ofNat (b.ctl.toNat + if b.txn = true then 4 else 0)
def recsB (base stamp : Int) (l : List Rec) : List UInt8 := l.flatMap fun r => prB r base stamp
def tailB (b : Batch) : List UInt8 := match b.recs with
 | [] => []
 | r :: rs => pvB r.stamp ++ recsB b.base r.stamp (r :: rs)
def bodyB (b : Batch) : List UInt8 := headB (headN b) ++ [markB b] ++ pvB b.recs.length ++ tailB b
def bytesB (b : Batch) : List UInt8 := putN (sealB (bodyB b)).length 4 ++ sealB (bodyB b)
theorem headB_len : ∀ (l : List Int), (headB l).length ≤ 10 * l.length
 | [] => by simp [headB]
 | n :: l => by
  have := headB_len l
  have h2 := pvB_len n
  simp [headB] at this ⊢
  omega
theorem headB_succ {l : List Int} {k : Nat} {n : Int} (h : l[k]? = some n) : headB (l.take (k + 1)) = headB (l.take k) ++ pvB n := by
 have hk := List.getElem?_eq_some_iff.1 h
 rw [List.take_succ_eq_append_getElem hk.1, hk.2]
 simp [headB]
theorem recsB_succ {base stamp : Int} {l : List Rec} {k : Nat} {r : Rec} (h : l[k]? = some r) : recsB base stamp (l.take (k + 1)) = recsB base stamp (l.take k) ++ prB r base stamp := by
 have hk := List.getElem?_eq_some_iff.1 h
 rw [List.take_succ_eq_append_getElem hk.1, hk.2]
 simp [recsB]
theorem prB_len {r : Rec} {base stamp : Int} (hk : r.key.size ≤ 64) (hv : r.val.size ≤ 64) : (prB r base stamp).length ≤ 169 := by
 have h1 := pvB_len (r.off - base)
 have h2 := pvB_len (r.stamp - stamp)
 have h3 := ptB_len r.key
 have h4 := ptB_len r.val
 simp [prB]
 omega
theorem rowF_all : ∀ (l : List Rec) (last nx : Int), rowF last nx l = true → (∀ r ∈ l, chkR r = 0) ∧ nx + l.length ≤ max nx (last + 1)
 | [], last, nx, _ => ⟨by simp, by simp; omega⟩
 | r :: l, last, nx, h => by
  simp only [rowF, Bool.and_eq_true, decide_eq_true_eq] at h
  obtain ⟨⟨⟨h1, h2⟩, h3⟩, h4⟩ := h
  obtain ⟨h5, h6⟩ := rowF_all l last (r.off + 1) h4
  refine ⟨fun x hx => ?_, ?_⟩
  ·rcases List.mem_cons.1 hx with rfl | hx
   ·exact h1
   ·exact h5 x hx
  ·simp
   omega
theorem form_recs {b : Batch} (h : Form b) : (∀ r ∈ b.recs, chkR r = 0) ∧ b.recs.length ≤ 16 := by
 rcases h.2.2.2.2.2 with h9 | h9
 ·obtain ⟨h1, h2⟩ := rowF_all _ _ _ h9.2
  have := h.2.2.1
  exact ⟨h1, by omega⟩
 ·rw [h9.2.2.1]
  exact ⟨by simp, by simp⟩
theorem F93 : Fun Tryz.prog 93 91 v93 c93 o93 := Fun.mk' Tryz.func93 Tryz.ntmps93 (by kernel_rfl) (by kernel_rfl) s93 q93
theorem head_at {b : Batch} {k : Nat} {n : Int} (h : (headN b)[k]? = some n) : ixVV 7 1 none (.agg #[.int .i64 b.base, .int .i64 (b.last - b.base), .int .i64 b.src, .int .i64 b.epoch, .int .i64 b.pid, .int .i64 b.gen, .int .i64 b.seq]) (.int .i64 (k : Int)) = some (.int .i64 n) := by
 have hk := (List.getElem?_eq_some_iff.1 h).1
 simp [headN] at hk
 match k, h with
 | 0, h => cases h; rfl
 | 1, h => cases h; rfl
 | 2, h => cases h; rfl
 | 3, h => cases h; rfl
 | 4, h => cases h; rfl
 | 5, h => cases h; rfl
 | 6, h => cases h; rfl
theorem or_4 {n : Int} (h : n = 0 ∨ n = 1 ∨ n = 2) : binV .or (.int .u8 (IntKind.u8.wrap n)) (.int .u8 4) = some (.int .u8 ((UInt8.ofNat (n.toNat + 4)).toNat : Int)) := by
 rcases h with rfl | rfl | rfl <;> rfl
theorem mark_0 {n : Int} (h : n = 0 ∨ n = 1 ∨ n = 2) : IntKind.u8.wrap n = ((UInt8.ofNat n.toNat).toNat : Int) := by
 rcases h with rfl | rfl | rfl <;> rfl
theorem write_ok (x : Batch) (cs : List Value) (G : Nat → Option Obj) (hx : BE G x cs) (hf : Form x) : FnO Tryz.prog 93 #[.agg cs.toArray] G [] (fun _ L' r => OwnB (bytesB x) L' r) := by
 obtain ⟨A, c, rfl, ⟨hc, hm, hA⟩, i1, i2, i3, i4, i5, i6, i7, i8⟩ := hx
 have hf0 := hf
 obtain ⟨⟨f1, f2, f3⟩, ⟨f4, f5, f6⟩, ⟨f7, f8, f9, f10⟩, f11, f12, f13⟩ := hf
 simp [rng] at f1 f2 f3 f4 f5 f6
 refine F93.fnO (by simp) noRegs_nil (go_of ?_)
 unfold c93 cellH
 have w1 : IntKind.i64.wrap (x.last - x.base) = x.last - x.base := by rw [w64_id] <;> omega
 intros; refine gr 0 0 ?_; refine sJ c93r0.eq_1 ?_
 intros; refine gr 0 0 ?_; refine sJ c93r1.eq_1 ?_
 intros; refine gr 13 29 ?_; refine sJ2 c93r2.eq_1 @w1 ?_
 (intros; try refine go_st ?_)
 refine go_ghost (ghost_nil none 5 1) ?_
 refine go_loop (fun e h => ∃ (k : Nat) (G' : Nat → Option Obj) (u : Value) (zc : List Value), (k ≤ 7 ∧ Gle G G' ∧ Cells UE 1 (headB ((headN x).take k)) zc) ∧ e 30 = .int .i64 k ∧ e 29 = .agg #[.int .i64 x.base, .int .i64 (x.last - x.base), .int .i64 x.src, .int .i64 x.epoch, .int .i64 x.pid, .int .i64 x.gen, .int .i64 x.seq] ∧ e 3 = u ∧ h.G = G' ∧ h.D = [] ∧ [.row u 5 1 (headB ((headN x).take k)).length zc, .reg 1 [.int .i64 x.base, .int .i64 x.last, .int .i64 x.src, .int .i64 x.epoch, .int .i64 x.pid, .int .i64 x.gen, .int .i64 x.seq, .bool x.txn, .int .i64 x.ctl, .slice A x.recs.length c]].Sublist h.L) (fun e h => 7 - iv (e 30)) ?_ ?_
 ·exact ⟨0, G, _, [], ⟨Nat.zero_le _, .refl _, .nil⟩, eE, eE, eE, rfl, rfl, List.Sublist.refl _⟩
 ·rintro e ⟨G', L, D⟩ ⟨k, G2, u, zc, ⟨hk, hgg, hcs⟩, e30, e29, e3, hG, hD, hL⟩
  dsimp only at hG hD hL
  subst hG hD
  refine go_ghost (ghost_sub hL) ?_
  refine go_keep [3, 29, 30] ?_
  refine sJ3 @e3 @e29 @e30 ?_
  have hhl := headB_len ((headN x).take k)
  have hh7 : ((headN x).take k).length ≤ 7 := by simp [headN]; omega
  intros; refine gr 0 0 ?_; refine sJ c93r3.eq_1 ?_
  intros; refine gc ?_; refine sI ?_
  refine gb (fun ht => ?_) (fun ht => ?_)
  ·have hkl : k < 7 := by simp at ht; omega
   have hw3 := inc_i k 7 (by omega) (by unfold maxLen; omega)
   obtain ⟨n, hn⟩ : ∃ n, (headN x)[k]? = some n := ⟨(headN x)[k]'(by simp [headN]; omega), List.getElem?_eq_getElem _⟩
   have hin : I64 n := by
    have := List.mem_of_getElem? hn
    simp [headN] at this
    unfold I64 at *
    omega
   have hix := head_at hn
   have hsucc := headB_succ hn
   (repeat first | refine go_skip ?_ | refine go_b ?_)
   intros; refine gr 32 33 ?_; refine sJ2 c93r4.eq_1 @hix ?_
   intros; refine gr 33 36 ?_; refine sJ c93r5.eq_1 ?_
   refine callsH_gx F109.enters (gx_slv_at [] _ (by decide) hcs) ?_
   rintro h' ⟨G3, rfl, hg3, hv3⟩
   refine (PutVar_ok _ n hin _ G3 hv3 (by omega) _ []).mono ?_
   rintro r h' ⟨G4, L', rfl, hg4, ys, hys, rfl⟩
   rw [← hsucc] at hys ⊢
   refine sI ?_
   intros; refine gr 36 37 ?_; refine sJ2 c93r6.eq_1 @hw3 ?_
   (intros; try refine go_st ?_)
   refine go_l ⟨⟨k + 1, G4, _, ys, ⟨by omega, hgg.trans (hg3.trans hg4), hys⟩, eE, eE, eE, rfl, rfl, List.Sublist.refl _⟩, ?_⟩
   refine sI ?_
   omega
  ·have hkl : k = 7 := by simp at ht; omega
   subst hkl
   rw [show (headN x).take 7 = headN x from rfl] at hcs hhl ⊢
   have hmx := form_recs hf0
   have hh8 : (headN x).length = 7 := rfl
   refine go_exit ?_
   refine sI ?_
   intros; refine gr 38 40 ?_; refine sJ c93r7.eq_1 ?_
   have hend : ∀ (e : Env) (G6 : Nat → Option Obj) (u : Value) (zc : List Value), Cells UE 1 (bodyB x) zc → (bodyB x).length ≤ 5000 → e 3 = u →
     go none Tryz.prog 91 v93.1 v93.2 (retQ o93 fun v h => OwnB (bytesB x) h.L v) [Td.s ((SC.reg false c93r20).seq ((SC.reg false c93r21).seq SC.ret))] e ⟨G6, [.row u 5 1 (bodyB x).length zc, .reg 1 [.int .i64 x.base, .int .i64 x.last, .int .i64 x.src, .int .i64 x.epoch, .int .i64 x.pid, .int .i64 x.gen, .int .i64 x.seq, .bool x.txn, .int .i64 x.ctl, .slice A x.recs.length c]], []⟩ := fun e G6 u zc hzc hbl e3 => by
    refine go_keep [3] ?_
    refine sJ @e3 ?_
    intros; refine gr 83 85 ?_; refine sJ c93r20.eq_1 ?_
    refine callsH_gx F111.enters (gx_slv_at [] _ (by decide) hzc) ?_
    rintro h' ⟨G7, rfl, hg7, hv7⟩
    refine (Seal_ok _ _ G7 hv7 (by omega) _ []).mono ?_
    rintro r h' ⟨G8, L', rfl, hg8, ys, hys, rfl⟩
    refine sI ?_
    intro _
    have hsl := sealB_len (bodyB x)
    refine go_gx (gx_slv_at [] _ (by decide) hys) ?_
    rintro h' ⟨G9, rfl, hg9, hv9⟩
    obtain ⟨As, cs', rfl, -, -, -⟩ := id hv9
    have hwl : IntKind.u64.wrap ((sealB (bodyB x)).length : Int) = ((sealB (bodyB x)).length : Int) := by rw [IntKind.wrap_u64]; omega
    intros; refine gr 85 91 ?_; refine sJ2 c93r21.eq_1 @hwl ?_
    refine (OPut_ok [] (sealB (bodyB x)).length 4 (by omega) (by omega) _ G9 SB.nil (by simp) _ []).mono ?_
    rintro r h' ⟨G10, L', rfl, hg10, ys2, hys2, rfl⟩
    simp only [List.nil_append] at hys2 ⊢
    refine sI ?_
    refine apX_v (L1 := []) (.inl rfl) (SB.le hv9 hg10) rfl UE1 (by rw [putN_len]; unfold maxLen; omega) fun ys' A' c' hc' => ?_
    have hh := hys2.app hc'
    refine sI ?_
    (intros; try refine go_st ?_)
    refine go_ret (retQ_o _ rfl (.cons_cons _ (List.nil_sublist _)) (noRegs_row noRegs_nil) ?_)
    rw [← List.length_append]
    exact ⟨_, hh, rfl⟩
   have hrest : ∀ (e : Env), e 3 = u → e 6 = .int .u8 ((markB x).toNat : Int) →
     go none Tryz.prog 91 v93.1 v93.2 (retQ o93 fun v h => OwnB (bytesB x) h.L v) [Td.s ((SC.rgX c93r10).seq (((SC.reg false c93r11).seq (SC.cond (O.t 55) ((SC.reg false c93r12).seq ((SC.reg false c93r13).seq ((SC.reg false c93r14).seq (SC.blk 2 ((SC.reg false c93r15).seq ((SC.cond (O.t 68) SC.skip (SC.exit 2)).seq ((SC.blk 3 ((SC.reg false c93r16).seq ((SC.reg false c93r17).seq (SC.reg false c93r18)))).seq (SC.reg false c93r19)))).loop)))) SC.skip)).seq ((SC.reg false c93r20).seq ((SC.reg false c93r21).seq SC.ret))))] e ⟨G', [.row u 5 1 (headB (headN x)).length zc, .reg 1 [.int .i64 x.base, .int .i64 x.last, .int .i64 x.src, .int .i64 x.epoch, .int .i64 x.pid, .int .i64 x.gen, .int .i64 x.seq, .bool x.txn, .int .i64 x.ctl, .slice A x.recs.length c]], []⟩ := fun e e3 e6 => by
    refine go_keep [3, 6] ?_
    refine sJ2 @e3 @e6 ?_
    (intros; try refine go_st ?_); refine go_x _ (.cons _ (List.Sublist.refl _)) (by decide) ?_; refine sJ c93r10.eq_1 ?_
    intro bk hbk
    refine ⟨grow_L (fun _ _ h => h) (.cons _ (.cons _ (List.Sublist.refl _))), ?_⟩
    refine sI ?_
    refine app8 (L1 := []) (L2 := [_]) (x := markB x) rfl rfl hcs (by omega) fun A' c' zc' hzc => ?_
    refine sI ?_
    refine ⟨grow_L (fun _ _ h => h) (.cons _ (.cons _ (List.Sublist.refl _))), ?_⟩
    refine sI ?_
    refine callsH_gx F109.enters (gx_slv_at [_] _ (by decide) hzc) ?_
    rintro h' ⟨G4, rfl, hg4, hv4⟩
    refine (PutVar_ok _ x.recs.length (by unfold I64; omega) _ G4 hv4 (by simp; omega) _ []).mono ?_
    rintro r h' ⟨G5, L', rfl, hg5, ys5, hys5, rfl⟩
    refine ⟨grow_L (hg4.trans hg5) (.cons _ (.cons _ (List.Sublist.refl _))), ?_⟩
    refine sI ?_
    have hpl := pvB_len x.recs.length
    (repeat first | (with_reducible intro _) | refine go_seq ?_)
    refine go_ghost (ghost_sub (L' := [.row r 5 1 (headB (headN x) ++ [markB x] ++ pvB x.recs.length).length ys5, .reg 1 [.int .i64 x.base, .int .i64 x.last, .int .i64 x.src, .int .i64 x.epoch, .int .i64 x.pid, .int .i64 x.gen, .int .i64 x.seq, .bool x.txn, .int .i64 x.ctl, .slice A x.recs.length c]]) ?hsub) ?_
    case hsub => exact .cons_cons _ (.cons _ (List.Sublist.refl _))
    intros; refine gr 53 55 ?_; refine sJ c93r11.eq_1 ?_
    intros; refine gc ?_; refine sI ?_
    refine gb (fun k1 => ?_) (fun k1 => ?_)
    ·have hpos : 0 < x.recs.length := by simpa using k1
     obtain ⟨r0, h0⟩ : ∃ r0, x.recs[0]? = some r0 := ⟨x.recs[0], List.getElem?_eq_getElem hpos⟩
     have hg5 := hgg.trans (hg4.trans hg5)
     have hA5 := hA.le hg5 (E' := RR) fun _ _ h => h
     intros; refine gr 57 61 ?_; refine sJ c93r12.eq_1 ?_
     refine hA5.x_lf h0 rfl rfl (fun cs h => by rw [h.1]; rfl) fun a ha => ?_
     refine sI ?_
     have hck0 := hmx.1 r0 (List.mem_of_getElem? h0)
     obtain ⟨⟨-, q0⟩, -, -⟩ := chk_small hck0
     have q0' := q0
     simp [inO] at q0'
     have hst : I64 r0.stamp := by unfold I64; omega
     intros; refine gr 61 64 ?_; refine sJ c93r13.eq_1 ?_
     refine callsH_gx F109.enters (gx_slv_at [] _ (by decide) hys5) ?_
     rintro h' ⟨G6, rfl, hg6, hv6⟩
     refine (PutVar_ok _ r0.stamp hst _ G6 hv6 (by simp; omega) _ []).mono ?_
     rintro r h' ⟨G7, L', rfl, hg7, ys7, hys7, rfl⟩
     have hp7 := pvB_len r0.stamp
     refine sI ?_
     have hA7 := hA5.le (hg6.trans hg7) (E' := RR) fun _ _ h => h
     have hst0 : tailB x = pvB r0.stamp ++ recsB x.base r0.stamp x.recs := by
      match hr : x.recs, h0 with
      | r :: rs, h0 => simp [hr] at h0; subst h0; rw [tailB, hr]
     generalize hP : headB (headN x) ++ [markB x] ++ pvB x.recs.length ++ pvB r0.stamp = P at hys7 ⊢
     have hPl : P.length ≤ 100 := by rw [← hP]; simp; omega
     intros; refine gr 0 0 ?_; refine sJ c93r14.eq_1 ?_
     (intros; try refine go_st ?_)
     refine go_loop (fun e h => ∃ (k : Nat) (G' : Nat → Option Obj) (u : Value) (zc : List Value), (k ≤ x.recs.length ∧ Gle G7 G' ∧ Cells UE 1 (P ++ recsB x.base r0.stamp (x.recs.take k)) zc ∧ (recsB x.base r0.stamp (x.recs.take k)).length ≤ 169 * k) ∧ e 67 = .int .i64 k ∧ e 66 = .int .i64 x.recs.length ∧ e 65 = .slice A x.recs.length c ∧ e 7 = .int .i64 r0.stamp ∧ e 3 = u ∧ h.G = G' ∧ h.D = [] ∧ [.row u 5 1 (P ++ recsB x.base r0.stamp (x.recs.take k)).length zc, .reg 1 [.int .i64 x.base, .int .i64 x.last, .int .i64 x.src, .int .i64 x.epoch, .int .i64 x.pid, .int .i64 x.gen, .int .i64 x.seq, .bool x.txn, .int .i64 x.ctl, .slice A x.recs.length c]].Sublist h.L) (fun e h => x.recs.length - iv (e 67)) ?_ ?_
     ·exact ⟨0, G7, r, ys7, ⟨Nat.zero_le _, .refl _, by simpa [recsB] using hys7, by simp [recsB]⟩, eE, eE, eE, eE, eE, rfl, rfl, by simp [recsB]⟩
     ·rintro e ⟨G', L, D⟩ ⟨k, G2, u, zc, ⟨hk, hgg, hcs, hrl⟩, e67, e66, e65, e7, e3, hG, hD, hL⟩
      dsimp only at hG hD hL
      subst hG hD
      refine go_ghost (ghost_sub hL) ?_
      refine go_keep [3, 7, 65, 66, 67] ?_
      refine sJ5 @e3 @e7 @e65 @e66 @e67 ?_
      intros; refine gr 0 0 ?_; refine sJ c93r15.eq_1 ?_
      intros; refine gc ?_; refine sI ?_
      refine gb (fun ht => ?_) (fun ht => ?_)
      ·have hkl : k < x.recs.length := by simpa using ht
       have hw3 := inc_i k c (by omega) hm
       obtain ⟨r, hr⟩ : ∃ r, x.recs[k]? = some r := ⟨x.recs[k], List.getElem?_eq_getElem (by omega)⟩
       have hsucc := recsB_succ (base := x.base) (stamp := r0.stamp) hr
       have hckr := hmx.1 r (List.mem_of_getElem? hr)
       have hcs' := chk_small hckr
       have hpl := prB_len (base := x.base) (stamp := r0.stamp) hcs'.2.1 hcs'.2.2
       have hput : putR r x.base r0.stamp = (prB r x.base r0.stamp, 0) := by
        rw [putR, if_neg (by simp [hckr]), if_neg (by simp [inO, f1, q0'])]
       have hAk := hA7.le hgg (E' := RR) fun _ _ h => h
       intros; refine gN ?_
       intros; refine gr 69 71 ?_; refine sJ c93r16.eq_1 ?_
       refine hAk.x_ld hr rfl rfl ?_
       rintro a1 ha1 cs ⟨rfl, -⟩
       have hPut := Put_ok r x.base r0.stamp
       unfold cellR at hPut ⊢
       refine sI ?_
       intros; refine gr 71 79 ?_; refine sJ c93r17.eq_1 ?_
       refine (hPut G' _ []).mono ?_
       rintro v h' ⟨G8, L', rfl, hg8, w, rfl, ys8, hys8, rfl⟩
       rw [hput] at hys8 ⊢
       refine sI ?_
       intro _
       refine go_gx (gx_slv_at [] _ (by decide) hys8) ?_
       rintro h' ⟨G9, rfl, hg9, hv9⟩
       intros; refine gr 79 82 ?_; refine sJ c93r18.eq_1 ?_
       refine apX_v (L1 := [_]) (.inl rfl) hv9 rfl UE1 (by simp; unfold maxLen; omega) fun ys' A' c' hc' => ?_
       have hh := hcs.app hc'
       rw [List.append_assoc, ← hsucc] at hh
       rw [← List.length_append, List.append_assoc, ← hsucc]
       refine sI ?_
       intros; refine gr 82 83 ?_; refine sJ2 c93r19.eq_1 @hw3 ?_
       (intros; try refine go_st ?_)
       refine go_l ⟨⟨k + 1, G9, _, _, ⟨by omega, hgg.trans (hg8.trans hg9), hh, by rw [hsucc, List.length_append]; omega⟩, eE, eE, eE, eE, eE, rfl, rfl, .cons _ (List.Sublist.refl _)⟩, ?_⟩
       refine sI ?_
       omega
      ·have hkl : k = x.recs.length := by simp at ht; omega
       subst hkl
       rw [List.take_length] at hcs hrl
       have hbody : bodyB x = P ++ recsB x.base r0.stamp x.recs := by rw [bodyB, hst0, ← hP]; simp
       refine go_exit ?_
       refine sI ?_
       rw [List.take_length, ← hbody]
       rw [← hbody] at hcs
       refine hend _ G' _ zc hcs (by rw [hbody]; simp; omega) ?_
       (refine sI ?_; try with_reducible exact True.intro)
    ·have hnil : x.recs = [] := by have := of_decide_eq_false k1; exact List.eq_nil_of_length_eq_zero (by omega)
     have htl : tailB x = [] := by rw [tailB, hnil]
     have hbody : bodyB x = headB (headN x) ++ [markB x] ++ pvB x.recs.length := by rw [bodyB, htl, List.append_nil]
     rw [← hbody] at hys5 ⊢
     (repeat first | refine go_skip ?_ | refine go_b ?_)
     refine hend _ G5 _ ys5 hys5 (by rw [hbody]; simp; omega) ?_
     (refine sI ?_; try with_reducible exact True.intro)
   have hctl : x.ctl = 0 ∨ x.ctl = 1 ∨ x.ctl = 2 := by
    rcases f13 with h | h
    ·exact .inl h.1
    ·exact .inr h.1
   intros; refine gr 0 0 ?_; refine sJ c93r8.eq_1 ?_
   intros; refine gc ?_; refine sI ?_
   refine gb (fun k1 => ?_) (fun k1 => ?_)
   ·have hm4 := or_4 hctl
    intros; refine gr 42 44 ?_; refine sJ2 c93r9.eq_1 @hm4 ?_
    intro _
    (repeat first | refine go_skip ?_ | refine go_b ?_)
    refine hrest _ ?_ ?_ <;> (refine sI ?_; try with_reducible exact True.intro)
    rw [markB, if_pos k1]
   ·(repeat first | refine go_skip ?_ | refine go_b ?_)
    refine hrest _ ?_ ?_ <;> (refine sI ?_; try with_reducible exact True.intro)
    rw [markB, if_neg (by rw [k1]; simp), mark_0 hctl]
    rfl
theorem F85 : Fun Tryz.prog 85 91 v85 c85 o85 := Fun.mkA Tryz.func85 Tryz.ntmps85
theorem cells_i : ∀ (l : List Int), (∀ x ∈ l, I64 x) → Cells IE 1 l (l.map fun n => .int .i64 n)
 | [], _ => .nil
 | n :: l, h => .cons (cs := [.int .i64 n]) ⟨rfl, h n (.head _)⟩ rfl (cells_i l fun x hx => h x (.tail _ hx))
theorem mark_r {n : Int} (h : n = 0 ∨ n = 1 ∨ n = 2) : IntKind.u8.wrap (IntKind.i64.wrap (n + 4)) = ((UInt8.ofNat (n.toNat + 4)).toNat : Int) := by
 rcases h with rfl | rfl | rfl <;> rfl
def tailK (x : Batch) (k : Nat) : List UInt8 := tailB { x with recs := x.recs.take k }
theorem tailK_0 (x : Batch) : tailK x 0 = [] := by simp [tailK, tailB]
theorem tailK_n (x : Batch) : tailK x x.recs.length = tailB x := by simp [tailK]
theorem tailK_pos {x : Batch} {k : Nat} {r0 : Rec} (h0 : x.recs[0]? = some r0) (hk : 0 < k) : tailK x k = pvB r0.stamp ++ recsB x.base r0.stamp (x.recs.take k) := by
 match hr : x.recs, h0 with
 | r :: rs, h0 =>
  simp at h0
  subst h0
  obtain ⟨k, rfl⟩ : ∃ j, k = j + 1 := ⟨k - 1, by omega⟩
  simp [tailK, tailB, hr]
theorem tailK_succ {x : Batch} {k : Nat} {r r0 : Rec} (h0 : x.recs[0]? = some r0) (hr : x.recs[k]? = some r) : tailK x (k + 1) = tailK x k ++ (if k = 0 then pvB r0.stamp else []) ++ prB r x.base r0.stamp := by
 rw [tailK_pos h0 (by omega), recsB_succ hr]
 by_cases hk : k = 0
 ·subst hk
  simp [tailK_0, recsB]
 ·rw [tailK_pos h0 (by omega), if_neg hk]
  simp
theorem bytes_ok (x : Batch) (cs : List Value) (G : Nat → Option Obj) (hx : BE G x cs) (hf : Form x) : FnO Tryz.prog 85 #[.agg cs.toArray] G [] (fun _ L' r => OwnB (bytesB x) L' r) := by
 obtain ⟨A, c, rfl, ⟨hc, hm, hA⟩, i1, i2, i3, i4, i5, i6, i7, i8⟩ := hx
 have hf0 := hf
 obtain ⟨⟨f1, f2, f3⟩, ⟨f4, f5, f6⟩, ⟨f7, f8, f9, f10⟩, f11, f12, f13⟩ := hf
 simp [rng] at f1 f2 f3 f4 f5 f6
 refine F85.fnO (by simp) noRegs_nil (go_of ?_)
 unfold c85 cellH
 have w1 : IntKind.i64.wrap (x.last - x.base) = x.last - x.base := by rw [w64_id] <;> omega
 have hin : ∀ n ∈ headN x, I64 n := by
  intro n hn
  simp [headN] at hn
  unfold I64 at *
  omega
 intros; refine gr 0 0 ?_; refine sJ c85r0.eq_1 ?_
 intros; refine gr 0 0 ?_; refine sJ c85r1.eq_1 ?_
 intros; refine gr 12 28 ?_; refine sJ2 c85r2.eq_1 @w1 ?_
 intro b0 hb0
 refine sI ?_
 (intros; try refine go_st ?_)
 refine go_gx (gx_slv_at [] _ (by decide) (cells_i _ hin)) ?_
 rintro h' ⟨G1, rfl, hg1, A7, c7, hA7e, hl7, hm7, hA7⟩
 cases hA7e
 refine go_ghost (ghost_nil none 5 1) ?_
 refine go_loop (fun e h => ∃ (k : Nat) (G' : Nat → Option Obj) (u : Value) (zc : List Value), (k ≤ 7 ∧ Gle G1 G' ∧ Cells UE 1 (headB ((headN x).take k)) zc) ∧ e 30 = .int .i64 k ∧ e 29 = .int .i64 7 ∧ e 28 = .slice (some ⟨b0, 0, none⟩) 7 7 ∧ e 3 = u ∧ h.G = G' ∧ h.D = [] ∧ [.row u 5 1 (headB ((headN x).take k)).length zc, .reg 1 [.int .i64 x.base, .int .i64 x.last, .int .i64 x.src, .int .i64 x.epoch, .int .i64 x.pid, .int .i64 x.gen, .int .i64 x.seq, .bool x.txn, .int .i64 x.ctl, .slice A x.recs.length c]].Sublist h.L) (fun e h => 7 - iv (e 30)) ?_ ?_
 ·exact ⟨0, G1, _, [], ⟨Nat.zero_le _, .refl _, .nil⟩, eE, by refine sI ?_; rfl, eE, eE, rfl, rfl, List.Sublist.refl _⟩
 ·rintro e ⟨G', L, D⟩ ⟨k, G2, u, zc, ⟨hk, hgg, hcs⟩, e30, e29, e28, e3, hG, hD, hL⟩
  dsimp only at hG hD hL
  subst hG hD
  refine go_ghost (ghost_sub hL) ?_
  refine go_keep [3, 28, 29, 30] ?_
  refine sJ4 @e3 @e28 @e29 @e30 ?_
  have hhl := headB_len ((headN x).take k)
  have hh7 : ((headN x).take k).length ≤ 7 := by simp [headN]; omega
  intros; refine gr 0 0 ?_; refine sJ c85r3.eq_1 ?_
  intros; refine gc ?_; refine sI ?_
  refine gb (fun ht => ?_) (fun ht => ?_)
  ·have hkl : k < 7 := by simp at ht; omega
   have hw3 := inc_i k 7 (by omega) (by unfold maxLen; omega)
   obtain ⟨n, hn⟩ : ∃ n, (headN x)[k]? = some n := ⟨(headN x)[k]'(by simp [headN]; omega), List.getElem?_eq_getElem _⟩
   have hsucc := headB_succ hn
   have hA7' := hA7.le hgg (E' := IE) fun _ _ h => h
   intros; refine gN ?_
   intros; refine gr 32 34 ?_; refine sJ c85r4.eq_1 ?_
   refine hA7'.x_l1 hn rfl rfl ?_
   rintro a1 ha1 v ⟨hv, hni⟩
   cases hv
   refine sI ?_
   intros; refine gr 34 37 ?_; refine sJ c85r5.eq_1 ?_
   refine callsH_gx F97.enters (gx_slv_at [] _ (by decide) hcs) ?_
   rintro h' ⟨G3, rfl, hg3, hv3⟩
   refine (RPutVar_ok _ n hni _ G3 hv3 (by omega) _ []).mono ?_
   rintro r h' ⟨G4, L', rfl, hg4, ys, hys, rfl⟩
   rw [← hsucc] at hys ⊢
   refine sI ?_
   intros; refine gr 37 38 ?_; refine sJ2 c85r6.eq_1 @hw3 ?_
   (intros; try refine go_st ?_)
   refine go_l ⟨⟨k + 1, G4, _, ys, ⟨by omega, hgg.trans (hg3.trans hg4), hys⟩, eE, eE, eE, eE, rfl, rfl, List.Sublist.refl _⟩, ?_⟩
   refine sI ?_
   omega
  ·have hkl : k = 7 := by simp at ht; omega
   subst hkl
   rw [show (headN x).take 7 = headN x from rfl] at hcs hhl ⊢
   have hmx := form_recs hf0
   have hh8 : (headN x).length = 7 := rfl
   have hgg' := hg1.trans hgg
   refine go_exit ?_
   refine sI ?_
   intros; refine gr 39 40 ?_; refine sJ c85r7.eq_1 ?_
   intros; try refine go_seq ?_
   have hctl : x.ctl = 0 ∨ x.ctl = 1 ∨ x.ctl = 2 := by
    rcases f13 with h | h
    ·exact .inl h.1
    ·exact .inr h.1
   refine go_cut (fun e h => ∃ n : Int, e 3 = u ∧ e 6 = .int .i64 n ∧ IntKind.u8.wrap n = ((markB x).toNat : Int) ∧ h = ⟨G', [.row u 5 1 (headB (headN x)).length zc, .reg 1 [.int .i64 x.base, .int .i64 x.last, .int .i64 x.src, .int .i64 x.epoch, .int .i64 x.pid, .int .i64 x.gen, .int .i64 x.seq, .bool x.txn, .int .i64 x.ctl, .slice A x.recs.length c]], []⟩) ?_ ?_
   ·intros; refine gr 0 0 ?_; refine sJ c85r8.eq_1 ?_
    intros; refine gc ?_; refine sI ?_
    refine gb (fun k1 => ?_) (fun k1 => ?_)
    ·intros; refine gr 42 44 ?_; refine sJ c85r9.eq_1 ?_
     (intros; try refine go_st ?_)
     refine go_l ⟨IntKind.i64.wrap (x.ctl + 4), eE, eE, ?_, rfl⟩
     rw [mark_r hctl, markB, if_pos k1]
    ·(intros; try refine go_st ?_)
     refine go_l ⟨x.ctl, eE, eE, ?_, rfl⟩
     rw [mark_0 hctl, markB, if_neg (by rw [k1]; simp)]
     rfl
   rintro e h ⟨nm, e3, e6, hnm, rfl⟩
   refine go_keep [3, 6] ?_
   refine sJ2 @e3 @e6 ?_
   (intros; try refine go_st ?_); refine go_x _ (.cons _ (List.Sublist.refl _)) (by decide) ?_; refine sJ2 c85r10.eq_1 @hnm ?_
   intro bk hbk
   refine ⟨grow_L (fun _ _ h => h) (.cons _ (.cons _ (List.Sublist.refl _))), ?_⟩
   refine sI ?_
   refine app8 (L1 := []) (L2 := [_]) (x := markB x) rfl rfl hcs (by omega) fun A' c' zc' hzc => ?_
   refine sI ?_
   refine ⟨grow_L (fun _ _ h => h) (.cons _ (.cons _ (List.Sublist.refl _))), ?_⟩
   refine sI ?_
   refine callsH_gx F97.enters (gx_slv_at [_] _ (by decide) hzc) ?_
   rintro h' ⟨G4, rfl, hg4, hv4⟩
   refine (RPutVar_ok _ x.recs.length (by unfold I64; omega) _ G4 hv4 (by simp; omega) _ []).mono ?_
   rintro r h' ⟨G5, L', rfl, hg5, ys5, hys5, rfl⟩
   refine ⟨grow_L (hg4.trans hg5) (.cons _ (.cons _ (List.Sublist.refl _))), ?_⟩
   refine sI ?_
   have hpl := pvB_len x.recs.length
   (repeat first | (with_reducible intro _) | refine go_seq ?_)
   refine go_ghost (ghost_sub (L' := [.row r 5 1 (headB (headN x) ++ [markB x] ++ pvB x.recs.length).length ys5, .reg 1 [.int .i64 x.base, .int .i64 x.last, .int .i64 x.src, .int .i64 x.epoch, .int .i64 x.pid, .int .i64 x.gen, .int .i64 x.seq, .bool x.txn, .int .i64 x.ctl, .slice A x.recs.length c]]) (.cons_cons _ (.cons _ (List.Sublist.refl _)))) ?_
   generalize hP : headB (headN x) ++ [markB x] ++ pvB x.recs.length = P at hys5 ⊢
   have hPl : P.length ≤ 90 := by rw [← hP]; simp; omega
   have hA5 := hA.le (hgg'.trans (hg4.trans hg5)) (E' := RR) fun _ _ h => h
   intros; refine gr 0 0 ?_; refine sJ c85r11.eq_1 ?_
   (intros; try refine go_st ?_)
   refine go_loop (fun e h => ∃ (k : Nat) (G' : Nat → Option Obj) (u : Value) (zc zs : List Value), (k ≤ x.recs.length ∧ Gle G5 G' ∧ Cells UE 1 (P ++ tailK x k) zc ∧ (tailK x k).length ≤ 179 * k) ∧ e 56 = .int .i64 k ∧ e 55 = .int .i64 x.recs.length ∧ e 54 = .slice A x.recs.length c ∧ e 3 = u ∧ h.G = G' ∧ h.D = [] ∧ [.row u 5 1 (P ++ tailK x k).length zc, .reg 1 [.int .i64 x.base, .int .i64 x.last, .int .i64 x.src, .int .i64 x.epoch, .int .i64 x.pid, .int .i64 x.gen, .int .i64 x.seq, .bool x.txn, .int .i64 x.ctl, .slice A x.recs.length c]].Sublist h.L) (fun e h => x.recs.length - iv (e 56)) ?_ ?_
   ·exact ⟨0, G5, r, ys5, [], ⟨Nat.zero_le _, .refl _, by simpa [tailK_0] using hys5, by simp [tailK_0]⟩, eE, eE, eE, eE, rfl, rfl, by simp [tailK_0]⟩
   ·rintro e ⟨G'', L, D⟩ ⟨k, G2, u2, zc2, -, ⟨hk, hgg2, hcs2, hrl⟩, e56, e55, e54, e3, hG, hD, hL⟩
    dsimp only at hG hD hL
    subst hG hD
    refine go_ghost (ghost_sub hL) ?_
    refine go_keep [3, 54, 55, 56] ?_
    refine sJ4 @e3 @e54 @e55 @e56 ?_
    intros; refine gr 0 0 ?_; refine sJ c85r12.eq_1 ?_
    intros; refine gc ?_; refine sI ?_
    refine gb (fun ht => ?_) (fun ht => ?_)
    ·have hkl : k < x.recs.length := by simpa using ht
     have hw3 := inc_i k c (by omega) hm
     obtain ⟨r, hr⟩ : ∃ r, x.recs[k]? = some r := ⟨x.recs[k], List.getElem?_eq_getElem (by omega)⟩
     obtain ⟨r0, h0⟩ : ∃ r, x.recs[0]? = some r := ⟨x.recs[0], List.getElem?_eq_getElem (by omega)⟩
     have hsucc := tailK_succ h0 hr
     have hck0 := hmx.1 r0 (List.mem_of_getElem? h0)
     obtain ⟨⟨-, q0⟩, -, -⟩ := chk_small hck0
     simp [inO] at q0
     have hst : I64 r0.stamp := by unfold I64; omega
     have hpst := pvB_len r0.stamp
     have hckr := hmx.1 r (List.mem_of_getElem? hr)
     have hcs' := chk_small hckr
     have hplr := prB_len (base := x.base) (stamp := r0.stamp) hcs'.2.1 hcs'.2.2
     have hput : putR r x.base r0.stamp = (prB r x.base r0.stamp, 0) := by
      rw [putR, if_neg (by simp [hckr]), if_neg (by simp [inO, f1, q0])]
     have hAk := hA5.le hgg2 (E' := RR) fun _ _ h => h
     intros; refine gN ?_
     intros; refine gr 58 61 ?_; refine sJ c85r13.eq_1 ?_
     refine hAk.x_ld hr rfl rfl ?_
     rintro a1 ha1 cs ⟨rfl, -⟩
     have hPut := RPut_ok r x.base r0.stamp
     unfold cellR at hPut ⊢
     refine sI ?_
     intros; try refine go_seq ?_
     refine go_ghost (ghost_perm (.swap _ _ _)) ?_
     refine go_cut (fun e h => ∃ (u : Value) (zc : List Value) (G3 : Nat → Option Obj), e 56 = .int .i64 k ∧ e 55 = .int .i64 x.recs.length ∧ e 54 = .slice A x.recs.length c ∧ e 3 = u ∧ Cells UE 1 (P ++ tailK x k ++ (if k = 0 then pvB r0.stamp else [])) zc ∧ Gle G'' G3 ∧
      h = ⟨G3, [.row u 5 1 (P ++ tailK x k ++ (if k = 0 then pvB r0.stamp else [])).length zc, .reg 8 [.int .i64 r.off, .string r.key, .string r.val, .bool r.dead, .int .i64 r.stamp], .reg 1 [.int .i64 x.base, .int .i64 x.last, .int .i64 x.src, .int .i64 x.epoch, .int .i64 x.pid, .int .i64 x.gen, .int .i64 x.seq, .bool x.txn, .int .i64 x.ctl, .slice A x.recs.length c]], []⟩) ?_ ?_
     ·intros; refine gr 61 62 ?_; refine sJ c85r14.eq_1 ?_
      intros; refine gc ?_; refine sI ?_
      refine gb (fun k1 => ?_) (fun k1 => ?_)
      ·have hk0 : k = 0 := by simpa using k1
       subst hk0
       obtain rfl : r = r0 := by rw [h0] at hr; cases hr; rfl
       intros; refine gr 63 67 ?_; refine sJ c85r15.eq_1 ?_
       refine callsH_gx F97.enters (gx_slv_at [] _ (by decide) hcs2) ?_
       rintro h' ⟨G6, rfl, hg6, hv6⟩
       refine (RPutVar_ok _ r.stamp hst _ G6 hv6 (by simp; omega) _ []).mono ?_
       rintro r h' ⟨G7, L', rfl, hg7, ys7, hys7, rfl⟩
       refine sI ?_
       (intros; try refine go_st ?_)
       exact go_l ⟨_, ys7, G7, eE, eE, eE, eE, hys7, hg6.trans hg7, rfl⟩
      ·have hk0 : ¬ k = 0 := by simpa using k1
       rw [if_neg hk0, List.append_nil]
       (intros; try refine go_st ?_)
       exact go_l ⟨_, zc2, G'', eE, eE, eE, eE, hcs2, .refl _, rfl⟩
     rintro e h ⟨u3, zc3, G3, e56, e55, e54, e3, hcs3, hg3, rfl⟩
     refine go_keep [3, 54, 55, 56] ?_
     refine sJ4 @e3 @e54 @e55 @e56 ?_
     have hA3 := hAk.le hg3 (E' := RR) fun _ _ h => h
     (intros; try refine go_st ?_); refine go_x _ (.cons _ (List.Sublist.refl _)) (by decide) ?_; refine sJ c85r16.eq_1 ?_
     refine hA3.y_lf h0 rfl rfl (fun cs h => by rw [h.1]; rfl) fun a ha => ?_
     refine sI ?_
     refine (hPut G3 _ []).mono ?_
     rintro v h' ⟨G8, L', rfl, hg8, w, rfl, ys8, hys8, rfl⟩
     rw [hput] at hys8 ⊢
     refine ⟨grow_L hg8 (.cons _ (.cons _ (List.Sublist.refl _))), ?_⟩
     refine sI ?_
     (repeat first | (with_reducible intro _) | refine go_seq ?_)
     refine go_gx (gx_slv_at [] _ (by decide) hys8) ?_
     rintro h' ⟨G9, rfl, hg9, hv9⟩
     intros; refine gr 79 82 ?_; refine sJ c85r17.eq_1 ?_
     refine apX_v (L1 := []) (.inl rfl) hv9 rfl UE1 (by simp; unfold maxLen; split <;> simp <;> omega) fun ys' A' c' hc' => ?_
     have hh := hcs3.app hc'
     have hassoc : P ++ tailK x k ++ (if k = 0 then pvB r0.stamp else []) ++ prB r x.base r0.stamp = P ++ tailK x (k + 1) := by rw [hsucc]; simp
     rw [hassoc] at hh
     rw [← List.length_append, hassoc]
     refine sI ?_
     intros; refine gr 82 83 ?_; refine sJ2 c85r18.eq_1 @hw3 ?_
     (intros; try refine go_st ?_)
     refine go_l ⟨⟨k + 1, G9, _, _, [], ⟨by omega, hgg2.trans (hg3.trans (hg8.trans hg9)), hh, by rw [hsucc]; simp only [List.length_append]; split <;> (try simp only [List.length_nil]) <;> omega⟩, eE, eE, eE, eE, rfl, rfl, .cons_cons _ (.cons _ (List.Sublist.refl _))⟩, ?_⟩
     refine sI ?_
     omega
    ·have hkl : k = x.recs.length := by simp at ht; omega
     subst hkl
     rw [tailK_n] at hcs2 hrl
     have hbody : bodyB x = P ++ tailB x := by rw [bodyB, ← hP]
     refine go_exit ?_
     refine sI ?_
     rw [tailK_n, ← hbody]
     rw [← hbody] at hcs2
     have hbl : (bodyB x).length ≤ 5000 := by rw [hbody]; simp; omega
     intros; refine gr 83 85 ?_; refine sJ c85r19.eq_1 ?_
     refine callsH_gx F99.enters (gx_slv_at [] _ (by decide) hcs2) ?_
     rintro h' ⟨G7, rfl, hg7, hv7⟩
     refine (RSeal_ok _ _ G7 hv7 (by omega) _ []).mono ?_
     rintro r h' ⟨G8, L', rfl, hg8, ys, hys, rfl⟩
     refine sI ?_
     intro _
     have hsl := sealB_len (bodyB x)
     refine go_gx (gx_slv_at [] _ (by decide) hys) ?_
     rintro h' ⟨G9, rfl, hg9, hv9⟩
     obtain ⟨As, cs', rfl, -, -, -⟩ := id hv9
     have hwl : IntKind.u64.wrap ((sealB (bodyB x)).length : Int) = ((sealB (bodyB x)).length : Int) := by rw [IntKind.wrap_u64]; omega
     intros; refine gr 85 91 ?_; refine sJ2 c85r20.eq_1 @hwl ?_
     refine (ROPut_ok [] (sealB (bodyB x)).length 4 (by omega) (by omega) _ G9 SB.nil (by simp) _ []).mono ?_
     rintro r h' ⟨G10, L', rfl, hg10, ys2, hys2, rfl⟩
     simp only [List.nil_append] at hys2 ⊢
     refine sI ?_
     refine apX_v (L1 := []) (.inl rfl) (SB.le hv9 hg10) rfl UE1 (by rw [putN_len]; unfold maxLen; omega) fun ys' A' c' hc' => ?_
     have hh := hys2.app hc'
     refine sI ?_
     (intros; try refine go_st ?_)
     refine go_ret (retQ_o _ rfl (.cons_cons _ (List.nil_sublist _)) (noRegs_row noRegs_nil) ?_)
     rw [← List.length_append]
     exact ⟨_, hh, rfl⟩
theorem F79 : Fun Tryz.prog 79 14 v79 c79 o79 := Fun.mkA Tryz.func79 Tryz.ntmps79
theorem F86 : Fun Tryz.prog 86 12 v86 c86 o86 := Fun.mkA Tryz.func86 Tryz.ntmps86
theorem F47 : Fun Tryz.prog 47 11 v47 c47 o47 := Fun.mkA Tryz.func47 Tryz.ntmps47
theorem F54 : Fun Tryz.prog 54 10 v54 c54 o54 := Fun.mkA Tryz.func54 Tryz.ntmps54
theorem F48 : Fun Tryz.prog 48 12 v48 c48 o48 := Fun.mkA Tryz.func48 Tryz.ntmps48
theorem F55 : Fun Tryz.prog 55 9 v55 c55 o55 := Fun.mkA Tryz.func55 Tryz.ntmps55
def errB (b : Batch) : Int := if Form b then (if (bytesB b).length ≤ 2048 then 0 else 2) else 1
def putB (b : Batch) : List UInt8 × Int := if errB b = 0 then (bytesB b, 0) else ([], errB b)
def sizeB (b : Batch) : Nat := (putB b).1.length
theorem errB_n {b : Batch} (h : ¬ Form b) : errB b = 1 := if_neg h
theorem errB_2 {b : Batch} (h : Form b) (h2 : ¬ (bytesB b).length ≤ 2048) : errB b = 2 := by rw [errB, if_pos h, if_neg h2]
theorem errB_0 {b : Batch} (h : Form b) (h2 : (bytesB b).length ≤ 2048) : errB b = 0 := by rw [errB, if_pos h, if_pos h2]
theorem putB_0 {b : Batch} (h : errB b = 0) : putB b = (bytesB b, 0) := if_pos h
theorem putB_n {b : Batch} (h : ¬ errB b = 0) : putB b = ([], errB b) := if_neg h
theorem errB_ok {b : Batch} (h : errB b = 0) : Form b ∧ (bytesB b).length ≤ 2048 := by
 unfold errB at h
 split at h
 ·rename_i h1
  split at h
  ·rename_i h2; exact ⟨h1, h2⟩
  ·cases h
 ·cases h
theorem bodyB_len {b : Batch} (hf : Form b) : (bodyB b).length ≤ 4900 := by
 obtain ⟨h1, h2⟩ := form_recs hf
 have a1 := headB_len (headN b)
 have a2 : (headN b).length = 7 := rfl
 have a3 := pvB_len b.recs.length
 have a4 : (tailB b).length ≤ 10 + 169 * b.recs.length := by
  cases hr : b.recs with
  | nil => simp [tailB, hr]
  | cons r rs =>
   have a5 := pvB_len r.stamp
   have a6 : ∀ (l : List Rec) (st : Int), (∀ r ∈ l, chkR r = 0) → (recsB b.base st l).length ≤ 169 * l.length := fun l => by
    induction l with
    | nil => simp [recsB]
    | cons q l ih =>
     intro st h
     have e1 := ih st fun r hr => h r (.tail _ hr)
     have e2 := chk_small (h q (.head _))
     have e3 := prB_len (base := b.base) (stamp := st) e2.2.1 e2.2.2
     simp [recsB] at e1 ⊢
     omega
   have a7 := a6 (r :: rs) r.stamp (by rw [← hr]; exact h1)
   simp only [tailB, hr, List.length_append]
   omega
 simp only [bodyB, List.length_append, List.length_cons, List.length_nil]
 omega
theorem bytesB_len (b : Batch) : (bytesB b).length = (bodyB b).length + 8 := by
 simp only [bytesB, List.length_append, putN_len, sealB_len]
 omega
theorem BPut_ok (x : Batch) (cs : List Value) (G : Nat → Option Obj) (hx : BE G x cs) : FnO Tryz.prog 79 #[.agg cs.toArray] G [] (fun _ L' r => OwnE (putB x) L' r) := by
 have h1 := formed_ok x cs G hx
 have h2 := write_ok x cs G hx
 obtain ⟨A, c, rfl, -⟩ := hx
 refine F79.fnO (by simp) noRegs_nil (go_of ?_)
 unfold c79
 unfold cellH at h1 h2 ⊢
 intros; refine gr 0 0 ?_; refine sJ c79r0.eq_1 ?_
 intros; refine gr 5 7 ?_; refine sJ c79r1.eq_1 ?_
 refine (h1 _ _).mono ?_; rintro _ _ ⟨rfl, rfl⟩; refine sI ?_
 intros; refine gc ?_; refine sI ?_
 refine gb (fun k1 => ?_) (fun k1 => ?_)
 ·have k1 : ¬ Form x := by simpa using k1
  intros; refine gr 0 0 ?_; refine sJ c79r2.eq_1 ?_
  (intros; try refine go_st ?_)
  refine go_ghost (ghost_nil none 5 1) ?_
  refine go_ret (retQ_o _ rfl (.cons_cons _ (List.nil_sublist _)) (noRegs_row noRegs_nil) ?_)
  have he := errB_n k1
  rw [putB_n (by rw [he]; decide), he]
  exact ⟨_, rfl, [], .nil, rfl⟩
 have k1 : Form x := by simpa using k1
 have hbl := bodyB_len k1
 have hwl := bytesB_len x
 intros; refine gN ?_
 intros; refine gr 8 10 ?_; refine sJ c79r3.eq_1 ?_
 refine (h2 k1 _ []).mono ?_
 rintro r h' ⟨G1, L', rfl, hg1, ys, hys, rfl⟩
 refine sI ?_
 intro _
 intros; try refine go_seq ?_
 refine go_gx (gx_knowS (.head _)) ?_
 rintro h' ⟨rfl, A2, c2, rfl, hc2, hm2⟩
 intros; refine gr 10 12 ?_; refine sJ c79r4.eq_1 ?_
 intros; refine gc ?_; refine sI ?_
 refine gb (fun k2 => ?_) (fun k2 => ?_)
 ·have k2 : ¬ (bytesB x).length ≤ 2048 := by have := of_decide_eq_true k2; omega
  intros; refine gr 0 0 ?_; refine sJ c79r5.eq_1 ?_
  (intros; try refine go_st ?_)
  refine go_ghost (ghost_nil none 5 1) ?_
  refine go_ret (retQ_o _ rfl (.cons_cons _ (List.nil_sublist _)) (noRegs_row noRegs_nil) ?_)
  have he := errB_2 k1 k2
  rw [putB_n (by rw [he]; decide), he]
  exact ⟨_, rfl, [], .nil, rfl⟩
 ·have k2 : (bytesB x).length ≤ 2048 := by have := of_decide_eq_false k2; omega
  intros; refine gN ?_
  intros; refine gr 13 14 ?_; refine sJ c79r6.eq_1 ?_
  (intros; try refine go_st ?_)
  refine go_ret (retQ_o _ rfl (.cons_cons _ (List.nil_sublist _)) (noRegs_row noRegs_nil) ?_)
  rw [putB_0 (errB_0 k1 k2)]
  exact ⟨_, rfl, ys, hys, rfl⟩
theorem RBCheck_ok (x : Batch) (cs : List Value) (G : Nat → Option Obj) (hx : BE G x cs) : FnS Tryz.prog 54 #[.agg cs.toArray] G (.int .i64 (errB x)) := by
 have h1 := form_ok x cs G hx
 have h2 := bytes_ok x cs G hx
 obtain ⟨A, c, rfl, -⟩ := hx
 refine F54.fnS (by simp) (go_of ?_)
 unfold c54
 unfold cellH at h1 h2 ⊢
 intros; refine gr 0 0 ?_; refine sJ c54r0.eq_1 ?_
 intros; refine gr 3 5 ?_; refine sJ c54r1.eq_1 ?_
 refine (h1 _ _).mono ?_; rintro _ _ ⟨rfl, rfl⟩; refine sI ?_
 intros; refine gc ?_; refine sI ?_
 refine gb (fun k1 => ?_) (fun k1 => ?_)
 ·have k1 : ¬ Form x := by simpa using k1
  intros; refine gr 0 0 ?_; refine sJ c54r2.eq_1 ?_
  intros; refine rV ?_; simp only [push_cast, Nat.reduceBEq]
  rw [errB_n k1]
 have k1 : Form x := by simpa using k1
 intros; refine gN ?_
 intros; refine gr 6 9 ?_; refine sJ c54r3.eq_1 ?_
 refine (ownL_d (by decide) (h2 k1) _ []).mono ?_
 rintro r h' ⟨G1, rfl, hg1, A2, c2, rfl, hc2, hm2, hA2⟩
 refine sI ?_
 intros; refine gc ?_; refine sI ?_
 refine gb (fun k2 => ?_) (fun k2 => ?_)
 ·have k2 : ¬ (bytesB x).length ≤ 2048 := by have := of_decide_eq_true k2; omega
  intros; refine gr 0 0 ?_; refine sJ c54r4.eq_1 ?_
  intros; refine rV ?_; simp only [push_cast, Nat.reduceBEq]
  rw [errB_2 k1 k2]
 ·have k2 : (bytesB x).length ≤ 2048 := by have := of_decide_eq_false k2; omega
  intros; refine gN ?_
  intros; refine gr 0 0 ?_; refine sJ c54r5.eq_1 ?_
  intros; refine rV ?_; simp only [push_cast, Nat.reduceBEq]
  rw [errB_0 k1 k2]
theorem RBPut_ok (x : Batch) (cs : List Value) (G : Nat → Option Obj) (hx : BE G x cs) : FnO Tryz.prog 86 #[.agg cs.toArray] G [] (fun _ L' r => OwnE (putB x) L' r) := by
 have h1 := RBCheck_ok x cs G hx
 have h2 := bytes_ok x cs G hx
 obtain ⟨A, c, rfl, -⟩ := hx
 refine F86.fnO (by simp) noRegs_nil (go_of ?_)
 unfold c86
 unfold cellH at h1 h2 ⊢
 intros; refine gr 0 0 ?_; refine sJ c86r0.eq_1 ?_
 intros; refine gr 5 7 ?_; refine sJ c86r1.eq_1 ?_
 refine (h1 _ _).mono ?_; rintro _ _ ⟨rfl, rfl⟩; refine sI ?_
 intros; refine gr 7 8 ?_; refine sJ c86r2.eq_1 ?_
 intros; refine gc ?_; refine sI ?_
 refine gb (fun k1 => ?_) (fun k1 => ?_)
 ·have k1 : ¬ errB x = 0 := of_decide_eq_true k1
  intros; refine gr 9 10 ?_; refine sJ c86r3.eq_1 ?_
  (intros; try refine go_st ?_)
  refine go_ghost (ghost_nil none 5 1) ?_
  refine go_ret (retQ_o _ rfl (.cons_cons _ (List.nil_sublist _)) (noRegs_row noRegs_nil) ?_)
  rw [putB_n k1]
  exact ⟨_, rfl, [], .nil, rfl⟩
 have k1 : errB x = 0 := by simpa using k1
 intros; refine gN ?_
 intros; refine gr 10 12 ?_; refine sJ c86r4.eq_1 ?_
 refine (h2 (errB_ok k1).1 _ []).mono ?_
 rintro r h' ⟨G1, L', rfl, hg1, ys, hys, rfl⟩
 refine sI ?_
 (intros; try refine go_st ?_)
 refine go_ret (retQ_o _ rfl (.cons_cons _ (List.nil_sublist _)) (noRegs_row noRegs_nil) ?_)
 rw [putB_0 k1]
 exact ⟨_, rfl, ys, hys, rfl⟩
theorem putB_e (x : Batch) : (putB x).2 = errB x := by
 unfold putB
 split
 ·rename_i h; exact h.symm
 ·rfl
theorem BCheck_ok (x : Batch) (cs : List Value) (G : Nat → Option Obj) (hx : BE G x cs) : FnS Tryz.prog 47 #[.agg cs.toArray] G (.int .i64 (errB x)) := by
 have h1 := BPut_ok x cs G hx
 obtain ⟨A, c, rfl, -⟩ := hx
 refine F47.fnS (by simp) (go_of ?_)
 unfold c47
 unfold cellH at h1 ⊢
 intros; refine gr 0 0 ?_; refine sJ c47r0.eq_1 ?_
 intros; refine gr 5 10 ?_; refine sJ c47r1.eq_1 ?_
 refine (h1 _ []).mono ?_
 rintro r h' ⟨G1, L', rfl, hg1, u, rfl, ys, hys, rfl⟩
 refine sI ?_
 intros; refine gr 10 11 ?_; refine sJ c47r2.eq_1 ?_
 intros; refine rV ?_; simp only [push_cast, Nat.reduceBEq]
 rw [putB_e]
theorem Size_ok (x : Batch) (cs : List Value) (G : Nat → Option Obj) (hx : BE G x cs) : FnS Tryz.prog 48 #[.agg cs.toArray] G (.int .i64 (sizeB x)) := by
 have h1 := BPut_ok x cs G hx
 obtain ⟨A, c, rfl, -⟩ := hx
 refine F48.fnS (by simp) (go_of ?_)
 unfold c48
 unfold cellH at h1 ⊢
 intros; refine gr 0 0 ?_; refine sJ c48r0.eq_1 ?_
 intros; refine gr 4 10 ?_; refine sJ c48r1.eq_1 ?_
 refine (h1 _ []).mono ?_
 rintro r h' ⟨G1, L', rfl, hg1, u, rfl, ys, hys, rfl⟩
 refine sI ?_
 intro _
 intros; try refine go_seq ?_
 refine go_gx (gx_knowS (.head _)) ?_
 rintro h' ⟨rfl, A2, c2, rfl, hc2, hm2⟩
 intros; refine gr 10 12 ?_; refine sJ c48r2.eq_1 ?_
 intros; refine rV ?_; simp only [push_cast, Nat.reduceBEq]
 rfl
theorem RSize_ok (x : Batch) (cs : List Value) (G : Nat → Option Obj) (hx : BE G x cs) : FnS Tryz.prog 55 #[.agg cs.toArray] G (.int .i64 (sizeB x)) := by
 have h1 := RBCheck_ok x cs G hx
 have h2 := bytes_ok x cs G hx
 obtain ⟨A, c, rfl, -⟩ := hx
 refine F55.fnS (by simp) (go_of ?_)
 unfold c55
 unfold cellH at h1 h2 ⊢
 intros; refine gr 0 0 ?_; refine sJ c55r0.eq_1 ?_
 intros; refine gr 3 5 ?_; refine sJ c55r1.eq_1 ?_
 refine (h1 _ _).mono ?_; rintro _ _ ⟨rfl, rfl⟩; refine sI ?_
 intros; refine gc ?_; refine sI ?_
 refine gb (fun k1 => ?_) (fun k1 => ?_)
 ·have k1 : ¬ errB x = 0 := of_decide_eq_true k1
  intros; refine gr 0 0 ?_; refine sJ c55r2.eq_1 ?_
  intros; refine rV ?_; simp only [push_cast, Nat.reduceBEq]
  rw [sizeB, putB_n k1]
  rfl
 have k1 : errB x = 0 := by simpa using k1
 intros; refine gN ?_
 intros; refine gr 6 9 ?_; refine sJ c55r3.eq_1 ?_
 refine (ownL_d (by decide) (h2 (errB_ok k1).1) _ []).mono ?_
 rintro r h' ⟨G1, rfl, hg1, A2, c2, rfl, hc2, hm2, hA2⟩
 refine sI ?_
 intros; refine rV ?_; simp only [push_cast, Nat.reduceBEq]
 rw [sizeB, putB_0 k1]
theorem F78 : Fun Tryz.prog 78 10 v78 c78 o78 := Fun.mkA Tryz.func78 Tryz.ntmps78
theorem beq_dec {α : Type} [BEq α] [LawfulBEq α] [DecidableEq α] (a b : α) : (a == b) = decide (a = b) := by by_cases h : a = b <;> simp [h]
theorem strAt_b {G : Nat → Option Obj} {v : Value} {l : List UInt8} (hl : SB G v l) {h : H} (hG : h.G = G) : StrAt h v ⟨l.toArray⟩ := by
 obtain ⟨G', L, D⟩ := h
 dsimp only at hG
 subst hG
 obtain ⟨A, c, rfl, hc, hm, hA⟩ := hl
 cases A with
 | none =>
  match l, hA with
  | [], _ => exact .inl ⟨c, rfl, rfl⟩
  | x :: xs, hA => obtain ⟨a, _, ha, _⟩ := hA 0 x rfl; cases ha
 | some a =>
  refine .inr ⟨a, c, rfl, fun j u hu => ?_⟩
  rw [byteCells_b] at hu
  simp [cellB] at hu
  obtain ⟨x, hx, rfl⟩ := hu
  obtain ⟨a', cs, ha, h1, h2, h3⟩ := hA j x hx
  cases ha
  have := h3 0 (.int .u8 (x.toNat : Int)) (by rw [h2]; rfl)
  simp at this
  exact .g this
theorem seq_b (a b : List UInt8) : binV .eql (.string ⟨a.toArray⟩) (.string ⟨b.toArray⟩) = some (.bool (decide (a = b))) := by
 have h : binV .eql (.string ⟨a.toArray⟩) (.string ⟨b.toArray⟩) = some (.bool ((ByteArray.mk a.toArray).toList == (ByteArray.mk b.toArray).toList)) := rfl
 rw [h, ByteArray.toList_mk, ByteArray.toList_mk, beq_dec]
theorem BSame_ok (l m : List UInt8) (v u : Value) (G : Nat → Option Obj) (hl : SB G v l) (hm : SB G u m) : FnS Tryz.prog 78 #[v, u] G (.bool (decide (l = m))) := by
 refine F78.fnS (by simp) (go_of ?_)
 unfold c78
 intros; refine gr 0 0 ?_; refine sJ c78r0.eq_1 ?_
 intros; refine gr 5 10 ?_; refine sJ c78r1.eq_1 ?_
 refine ⟨_, strAt_b hl rfl, ?_⟩
 refine sI ?_
 refine ⟨_, strAt_b hm rfl, ?_⟩
 refine sJ @seq_b ?_
 intros; refine rV ?_; simp only [push_cast, Nat.reduceBEq]
instance decRec (a b : Rec) : Decidable (a = b) := decidable_of_iff (a.off = b.off ∧ a.key = b.key ∧ a.val = b.val ∧ a.dead = b.dead ∧ a.stamp = b.stamp) (by cases a; cases b; simp)
instance decBatch (a b : Batch) : Decidable (a = b) := decidable_of_iff (a.base = b.base ∧ a.last = b.last ∧ a.src = b.src ∧ a.epoch = b.epoch ∧ a.pid = b.pid ∧ a.gen = b.gen ∧ a.seq = b.seq ∧ a.txn = b.txn ∧ a.ctl = b.ctl ∧ a.recs = b.recs) (by cases a; cases b; simp)
theorem same_take {α : Type} [DecidableEq α] {a b : List α} {k : Nat} (hk : k = a.length) (hl : a.length = b.length) (h : a.take k = b.take k) : a = b := by
 subst hk
 rw [List.take_length, hl, List.take_length] at h
 exact h
theorem take_succ_eq {α : Type} {a b : List α} {k : Nat} {x y : α} (h : a.take k = b.take k) (hx : a[k]? = some x) (hy : b[k]? = some y) (hxy : x = y) : a.take (k + 1) = b.take (k + 1) := by
 have h1 := List.getElem?_eq_some_iff.1 hx
 have h2 := List.getElem?_eq_some_iff.1 hy
 rw [List.take_succ_eq_append_getElem h1.1, List.take_succ_eq_append_getElem h2.1, h, h1.2, h2.2, hxy]
theorem BE.recs {G : Nat → Option Obj} {x : Batch} {cs : List Value} (h : BE G x cs) : ∃ A c, cs = cellH x (.slice A x.recs.length c) ∧ SlV G RR 5 (.slice A x.recs.length c) x.recs := by
 obtain ⟨A, c, h1, ⟨h2, h3, h4⟩, -⟩ := h
 exact ⟨A, c, h1, A, c, rfl, h2, h3, h4⟩
theorem F18 : Fun Tryz.prog 18 29 v18 c18 o18 := Fun.mkA Tryz.func18 Tryz.ntmps18
theorem Few_ok (x : Batch) (cs : List Value) (G : Nat → Option Obj) (hx : BE G x cs) : FnE Tryz.prog 18 #[.agg cs.toArray] G (fun r => ∃ b, r = .bool b ∧ (b = true → x.recs.length ≤ 100)) := by
 obtain ⟨A, c, rfl, ⟨hc, hm, hA⟩, -⟩ := hx
 refine F18.fnE (by simp) (go_of ?_)
 unfold c18 cellH
 intros; refine gr 0 0 ?_; refine sJ c18r0.eq_1 ?_
 intros; refine gr 0 0 ?_; refine sJ c18r1.eq_1 ?_
 intros; refine gr 0 0 ?_; refine sJ c18r2.eq_1 ?_
 (intros; try refine go_st ?_)
 refine go_loop (fun e h => ∃ (k : Nat) (n : Int), (k ≤ x.recs.length) ∧ e 9 = .int .i64 k ∧ e 8 = .int .i64 x.recs.length ∧ e 7 = .slice A x.recs.length c ∧ e 3 = .int .i64 n ∧ h.G = G ∧ h.D = [] ∧ [.reg 1 [.int .i64 x.base, .int .i64 x.last, .int .i64 x.src, .int .i64 x.epoch, .int .i64 x.pid, .int .i64 x.gen, .int .i64 x.seq, .bool x.txn, .int .i64 x.ctl, .slice A x.recs.length c]].Sublist h.L) (fun e h => x.recs.length - iv (e 9)) ?_ ?_
 ·exact ⟨0, 0, Nat.zero_le _, eE, eE, eE, eE, rfl, rfl, List.Sublist.refl _⟩
 ·rintro e ⟨G', L, D⟩ ⟨k, n, hk, e9, e8, e7, e3, hG, hD, hL⟩
  dsimp only at hG hD hL
  subst hG hD
  refine go_ghost (ghost_sub hL) ?_
  refine go_keep [3, 7, 8, 9] ?_
  refine sJ4 @e3 @e7 @e8 @e9 ?_
  intros; refine gr 0 0 ?_; refine sJ c18r3.eq_1 ?_
  intros; refine gc ?_; refine sI ?_
  refine gb (fun ht => ?_) (fun ht => ?_)
  ·have hkl : k < x.recs.length := by simpa using ht
   have hw3 := inc_i k c (by omega) hm
   obtain ⟨r, hr⟩ : ∃ r, x.recs[k]? = some r := ⟨x.recs[k], List.getElem?_eq_getElem (by omega)⟩
   intros; refine gN ?_
   intros; refine gr 11 13 ?_; refine sJ c18r4.eq_1 ?_
   refine hA.x_ld hr rfl rfl ?_
   rintro a1 ha1 cs ⟨rfl, ⟨j1, j2⟩, j3, j4⟩
   unfold cellR
   refine sI ?_
   intros; refine gr 13 22 ?_; refine sJ c18r5.eq_1 ?_
   generalize IntKind.i64.wrap _ = m2
   intros; refine gr 22 23 ?_; refine sJ c18r6.eq_1 ?_
   intros; refine gc ?_; refine sI ?_
   refine gb (fun h1 => ?_) (fun h1 => ?_)
   ·intros; refine gr 0 0 ?_; refine sJ c18r7.eq_1 ?_
    intros; refine rV ?_; simp only [push_cast, Nat.reduceBEq]
    exact ⟨false, rfl, fun h => by cases h⟩
   ·have h1 := of_decide_eq_false h1
    intros; refine gN ?_
    intros; refine gr 24 25 ?_; refine sJ2 c18r8.eq_1 @hw3 ?_
    (intros; try refine go_st ?_)
    refine go_l ⟨⟨k + 1, m2, by omega, eE, eE, eE, eE, rfl, rfl, .cons _ (List.Sublist.refl _)⟩, ?_⟩
    refine sI ?_
    omega
  ·refine go_exit ?_
   refine sI ?_
   intros; refine gr 26 29 ?_; refine sJ c18r9.eq_1 ?_
   intros; refine rV ?_; simp only [push_cast, Nat.reduceBEq]
   exact ⟨_, rfl, fun h => by have := of_decide_eq_true h; omega⟩
instance decI64 (n : Int) : Decidable (I64 n) := by
 unfold I64
 infer_instance
end Go.Proofs.YtppgnokhdpaljaaGreat

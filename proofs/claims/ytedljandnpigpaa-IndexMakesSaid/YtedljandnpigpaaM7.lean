/- Parts of a proof, 16 texts in one file. No condition. -/
import Derived.Test.YtedljandnpigpaaRows
import Derived.WalkKit
import Derived.ProofKit
import Derived.OpenShut
import Derived.ShutString
import Derived.ChangeOld
import Derived.ChangeSame
import Derived.Below
import Derived.Test.YtedljandnpigpaaM1
import Derived.Test.YtedljandnpigpaaM2
import Derived.Test.YtedljandnpigpaaM3
import Derived.Test.YtedljandnpigpaaM4
import Derived.Test.YtedljandnpigpaaM5
import Derived.Test.YtedljandnpigpaaM6
set_option linter.unusedSimpArgs false
set_option linter.unusedVariables false
namespace Go.Proofs.Ytedljandnpigpaa
open Go Go.Kx Go.ChangeShapes Go.WideShapes Go.ChangeAt Go.RowKit
theorem own : ownKnob Try.prog.godebug = none := by kernel_rfl
theorem laidOut : laidOutB Try.prog = true := by kernel_rfl
theorem opens_byte (W : World) : Opens Try.prog W 5 UE := (opens_int Try.underlying5).mono fun n cs ⟨h1, h2⟩ => ⟨UInt8.ofNat n.toNat, by rw [UE, ← wf_u8 h2]; exact h1⟩
theorem opens_bytes (W : World) : Opens Try.prog W 22 (fun (l : List UInt8) cs => ∃ A c, cs = [.slice A l.length c] ∧ l.length ≤ c ∧ c ≤ maxLen ∧ SlA (allG W) UE 1 A l) :=
 opens_slice Try.underlying22 (by kernel_rfl) (opens_byte W)
end Go.Proofs.Ytedljandnpigpaa
namespace Go.Proofs.Ytedljandnpigpaa
open Go Go.Kx
theorem F83 : Fun Try.prog 83 11 v83 c83 o83 := Fun.mk' Try.func83 Try.ntmps83 (by kernel_rfl) (by kernel_rfl) s83 q83
theorem F65 : Fun Try.prog 65 44 v65 c65 o65 := Fun.mk' Try.func65 Try.ntmps65 (by kernel_rfl) (by kernel_rfl) s65 q65
theorem F69 : Fun Try.prog 69 48 v69 c69 o69 := Fun.mk' Try.func69 Try.ntmps69 (by kernel_rfl) (by kernel_rfl) s69 q69
theorem F108 : Fun Try.prog 108 25 v108 c108 o108 := Fun.mk' Try.func108 Try.ntmps108 (by kernel_rfl) (by kernel_rfl) s108 q108
theorem ofInt64 {a : Nat} (ha : a < 18446744073709551616) : (BitVec.ofInt 64 (a : Int)).toNat = a := by
 rw [BitVec.ofInt_natCast, BitVec.toNat_ofNat]
 exact Nat.mod_eq_of_lt ha
theorem wrap64 {a : Nat} (ha : a < 18446744073709551616) : IntKind.u64.wrap (a : Int) = (a : Int) := by
 rw [IntKind.wrap_u64]
 omega
theorem bin_and64 {a b : Nat} (ha : a < 18446744073709551616) (hb : b < 18446744073709551616) : binV .and (.int .u64 (a : Int)) (.int .u64 (b : Int)) = some (.int .u64 ((a &&& b : Nat) : Int)) := by
 simp only [binV]
 rw [if_pos trivial]
 have : (BitVec.ofInt IntKind.u64.bits (a : Int) &&& BitVec.ofInt IntKind.u64.bits (b : Int)).toNat = a &&& b := by
   show (BitVec.ofInt 64 (a : Int) &&& BitVec.ofInt 64 (b : Int)).toNat = _
   rw [BitVec.toNat_and, ofInt64 ha, ofInt64 hb]
 rw [this, wrap64 (Nat.lt_of_le_of_lt Nat.and_le_left ha)]
theorem bin_or64 {a b : Nat} (ha : a < 18446744073709551616) (hb : b < 18446744073709551616) : binV .or (.int .u64 (a : Int)) (.int .u64 (b : Int)) = some (.int .u64 ((a ||| b : Nat) : Int)) := by
 simp only [binV]
 rw [if_pos trivial]
 have : (BitVec.ofInt IntKind.u64.bits (a : Int) ||| BitVec.ofInt IntKind.u64.bits (b : Int)).toNat = a ||| b := by
   show (BitVec.ofInt 64 (a : Int) ||| BitVec.ofInt 64 (b : Int)).toNat = _
   rw [BitVec.toNat_or, ofInt64 ha, ofInt64 hb]
 rw [this, wrap64]
 exact Nat.or_lt_two_pow (n := 64) ha hb
theorem bin_shl64 {a s : Nat} (hs : s ≤ 64) (h : a * 2 ^ s < 18446744073709551616) (k : IntKind) : binV .shl (.int .u64 (a : Int)) (.int k (s : Int)) = some (.int .u64 ((a * 2 ^ s : Nat) : Int)) := by
 simp only [binV]
 rw [if_pos (by omega)]
 have h1 : min ((s : Int)).toNat IntKind.u64.bits = s := by simp [IntKind.bits]; omega
 rw [h1]
 have h2 : (a : Int) * 2 ^ s = ((a * 2 ^ s : Nat) : Int) := by push_cast; rfl
 rw [h2, wrap64 h]
theorem or_apart {a b n : Nat} (hb : b < 2 ^ n) : a * 2 ^ n ||| b = a * 2 ^ n + b := by
 rw [Nat.mul_comm]
 exact (Nat.two_pow_add_eq_or_of_lt hb a).symm
theorem and_127 (x : UInt8) : binV .and (.int .u8 (x.toNat : Int)) (.int .u8 127) = some (.int .u8 ((x.toNat % 128 : Nat) : Int)) := by
 have key : ∀ b : Fin 256, (BitVec.ofInt 8 ((b.val : Nat) : Int) &&& BitVec.ofInt 8 127).toNat = b.val % 128 := by decide +kernel
 have h2 := key ⟨x.toNat, x.toNat_lt⟩
 simp only [binV]
 rw [if_pos trivial]
 have h3 : (BitVec.ofInt IntKind.u8.bits (x.toNat : Int) &&& BitVec.ofInt IntKind.u8.bits 127).toNat = x.toNat % 128 := h2
 rw [h3, IntKind.wrap_u8]
 congr 2
 omega
theorem cv_u8 (x : Nat) (hx : x < 256) : IntKind.u64.wrap (x : Int) = (x : Int) := wrap64 (by omega)
theorem slY_v {α : Type} {E : α → List Value → Prop} {G : Nat → Option Obj} {sz : Nat} {P : Program} {d : Nat} {l : List SI} {e : Env} {h : H} {K : Env → H → Prop} {A : Option Addr} {n c : Nat} {xs : List α} {lw u m : Int} (lo hi mx : Nat) (hl : SlV G E sz (.slice A n c) xs) (h1 : lw = lo) (h2 : u = hi) (h3 : m = mx)
   (h4 : lo ≤ hi ∧ hi ≤ xs.length ∧ hi ≤ mx ∧ mx ≤ c) (hk : ∀ B, SlV G E sz (.slice B ((xs.take hi).drop lo).length (mx - lo)) ((xs.take hi).drop lo) → kR P l d e K (.slice B ((xs.take hi).drop lo).length (mx - lo)) h) : slY P A c (some lw) (some u) (some m) sz d l e h K := by
 subst h1 h2 h3
 obtain ⟨A', c', he, hc, hm, hA⟩ := hl
 cases he
 have hlen : ((xs.take hi).drop lo).length = hi - lo := by simp; omega
 refine ⟨by omega, ?_⟩
 have := hk (if ((mx : Nat) : Int).toNat = ((lo : Nat) : Int).toNat then A else A.map (·.add (((lo : Nat) : Int).toNat * sz))) ⟨_, _, rfl, by omega, by omega, ?_⟩
 · rw [hlen] at this
   simpa using this
 · refine hA.cut (by omega) fun hlt => ?_
   rw [if_neg (by simp; omega)]
   simp
theorem SlV.pre {α : Type} {E : α → List Value → Prop} {G : Nat → Option Obj} {sz : Nat} {A : Option Addr} {n c : Nat} {xs : List α} (hi : Nat) (hl : SlV G E sz (.slice A n c) xs) (h : hi ≤ xs.length) : SlV G E sz (.slice A hi c) (xs.take hi) := by
 obtain ⟨A', c', he, hc, hm, hA⟩ := hl
 cases he
 have hlen : (xs.take hi).length = hi := by simp; omega
 refine ⟨A, c, by rw [hlen], by omega, hm, ?_⟩
 have := hA.cut (l := 0) (n := hi) (B := A) h fun _ => by cases A <;> simp [Addr.add]
 simpa using this
def numB (l : List UInt8) : Nat := l.foldl (fun n x => n * 256 + x.toNat) 0
theorem fold_lt : ∀ (l : List UInt8) (n k : Nat), n < 256 ^ k → l.foldl (fun n x => n * 256 + x.toNat) n < 256 ^ (k + l.length)
 | [], n, k, h => by simpa using h
 | x :: l, n, k, h => by
   have hx := x.toNat_lt
   have := fold_lt l (n * 256 + x.toNat) (k + 1) (by rw [Nat.pow_succ]; omega)
   rw [List.foldl_cons, List.length_cons, show k + (l.length + 1) = k + 1 + l.length by omega]
   exact this
theorem numB_lt (l : List UInt8) : numB l < 256 ^ l.length := by
 have := fold_lt l 0 0 (by simp)
 simpa [numB] using this
theorem numB_succ {l : List UInt8} {k : Nat} {x : UInt8} (hx : l[k]? = some x) : numB (l.take (k + 1)) = numB (l.take k) * 256 + x.toNat := by
 have h := List.getElem?_eq_some_iff.1 hx
 rw [List.take_succ_eq_append_getElem h.1, h.2]
 simp [numB]
theorem numB_7 {l : List UInt8} (h : l.length ≤ 7) : numB l < 72057594037927936 := by
 have := numB_lt l
 have h2 : 256 ^ l.length ≤ 256 ^ 7 := Nat.pow_le_pow_right (by decide) h
 omega
def getN (l : List UInt8) (a : Int) (k : Nat) : Nat × Int := if a < 0 then (0, 1) else if (l.drop a.toNat).length < k then (0, 10) else (numB ((l.drop a.toNat).take k), 0)
theorem from_ok (l : List UInt8) (a : Nat) (v : Value) (G : Nat → Option Obj) (hl : SB G v l) : FnE Try.prog 83 #[v, .int .i64 (a : Int)] G (fun r => SB G r (l.drop a)) := by
 obtain ⟨A, c, rfl, hA⟩ := id hl
 refine F83.fnE (by simp) (go_of ?_)
 unfold c83
 (intros; try refine go_st ?_); refine go_r 0 0 (by decide) ?_; (refine sJ c83r0.eq_1 ?_; try with_reducible exact True.intro)
 have hmin : min (a : Int) l.length = ((min a l.length : Nat) : Int) := by omega
 (intros; try refine go_st ?_); refine go_r 5 11 (by decide) ?_; (refine sJ2 c83r1.eq_1 @hmin ?_; try with_reducible exact True.intro)
 refine slY_v (min a l.length) l.length c hl rfl rfl rfl (by have := hA.1; omega) fun B hB => ?_
 have he : (l.take l.length).drop (min a l.length) = l.drop a := by
   rw [List.take_length]
   by_cases h : a ≤ l.length
   · rw [Nat.min_eq_left h]
   · rw [Nat.min_eq_right (by omega), List.drop_length, List.drop_of_length_le (by omega)]
 rw [he] at hB ⊢
 (refine sI ?_; try with_reducible exact True.intro)
 (intros; try refine go_st ?_)
 refine go_ret (retQ_v rfl ?_); simp only [push_cast, Nat.reduceBEq]
 exact hB
theorem getN_neg {l : List UInt8} {a : Int} {k : Nat} (h : a < 0) : getN l a k = (0, 1) := if_pos h
theorem getN_nat (l : List UInt8) (a k : Nat) : getN l (a : Int) k = if (l.drop a).length < k then (0, 10) else (numB ((l.drop a).take k), 0) := by
 rw [getN, if_neg (by omega)]
 rfl
theorem NGet_ok (l : List UInt8) (a : Int) (k : Nat) (hk : 1 ≤ k ∧ k ≤ 8) (v : Value) (G : Nat → Option Obj) (hl : SB G v l) :
   FnS Try.prog 65 #[v, .int .i64 a, .int .i64 (k : Int)] G (.tuple #[.int .u64 ((getN l a k).1 : Int), .int .i64 (getN l a k).2]) := by
 obtain ⟨A, c, rfl, hA⟩ := id hl
 refine F65.fnS (by simp) (go_of ?_)
 unfold c65
 (intros; try refine go_st ?_); refine go_r 0 0 (by decide) ?_; (refine sJ c65r0.eq_1 ?_; try with_reducible exact True.intro)
 (intros; try refine go_st ?_); refine go_r 12 21 (by decide) ?_; (refine sJ c65r1.eq_1 ?_; try with_reducible exact True.intro)
 refine gd (fun h1 => absurd (of_decide_eq_true h1) (by omega)) (fun h1 => ?_)
 (refine sI ?_; try with_reducible exact True.intro)
 have h2 : decide ((8 : Int) < (k : Int)) = false := decide_eq_false (by omega)
 (refine sJ @h2 ?_; try with_reducible exact True.intro)
 (intros; try refine go_st ?_); refine go_c ?_; (refine sI ?_; try with_reducible exact True.intro)
 refine gb (fun h3 => ?_) (fun h3 => ?_)
 · have h3 := of_decide_eq_true h3
   (intros; try refine go_st ?_); refine go_r 0 0 (by decide) ?_; (refine sJ c65r2.eq_1 ?_; try with_reducible exact True.intro)
   (intros; try refine go_st ?_)
   refine go_ret (retQ_v rfl ?_); simp only [push_cast, Nat.reduceBEq]
   rw [getN_neg h3]
   rfl
 have h3 := of_decide_eq_false h3
 obtain ⟨a, rfl⟩ : ∃ n : Nat, a = n := ⟨a.toNat, by omega⟩
 rw [getN_nat]
 (repeat first | (with_reducible intro _) | refine go_skip ?_ | refine go_b ?_)
 (intros; try refine go_st ?_); refine go_r 22 25 (by decide) ?_; (refine sJ c65r3.eq_1 ?_; try with_reducible exact True.intro)
 refine (from_ok l a _ G hl _ _).mono ?_
 rintro r h' ⟨hr, rfl⟩
 generalize l.drop a = m at hr ⊢
 obtain ⟨B, d, rfl, hB⟩ := id hr
 (refine sI ?_; try with_reducible exact True.intro)
 (intros; try refine go_st ?_); refine go_r 25 28 (by decide) ?_; (refine sJ c65r4.eq_1 ?_; try with_reducible exact True.intro)
 (intros; try refine go_st ?_); refine go_c ?_; (refine sI ?_; try with_reducible exact True.intro)
 refine gb (fun h4 => ?_) (fun h4 => ?_)
 · have h4 := of_decide_eq_true h4
   (intros; try refine go_st ?_); refine go_r 0 0 (by decide) ?_; (refine sJ c65r5.eq_1 ?_; try with_reducible exact True.intro)
   (intros; try refine go_st ?_)
   refine go_ret (retQ_v rfl ?_); simp only [push_cast, Nat.reduceBEq]
   rw [if_pos (by omega)]
   rfl
 have h4 := of_decide_eq_false h4
 rw [if_neg (by omega)]
 (repeat first | (with_reducible intro _) | refine go_skip ?_ | refine go_b ?_)
 (intros; try refine go_st ?_); refine go_r 0 0 (by decide) ?_; (refine sJ c65r6.eq_1 ?_; try with_reducible exact True.intro)
 (intros; try refine go_st ?_); refine go_r 29 31 (by decide) ?_; (refine sJ c65r7.eq_1 ?_; try with_reducible exact True.intro)
 refine ⟨by have := hB.1; omega, ?_⟩
 (intros; try refine go_st ?_)
 have hC := SlV.pre k hr (by omega)
 generalize hm : m.take k = x at hC ⊢
 have hxl : x.length = k := by rw [← hm]; simp; omega
 obtain ⟨B', d', he, hd', hm', hC⟩ := hC
 cases he
 refine go_loop (fun e h => ∃ (i : Nat), i ≤ x.length ∧ e 33 = .int .i64 i ∧ e 32 = .int .i64 x.length ∧ e 31 = .slice B x.length d ∧ e 9 = .int .u64 (numB (x.take i) : Int) ∧ h = ⟨G, [], []⟩) (fun e h => x.length - iv (e 33)) ?_ ?_
 · exact ⟨0, Nat.zero_le _, eE, eE, eE, by (refine sI ?_; try with_reducible exact True.intro); rfl, rfl⟩
 · rintro e h ⟨i, hi, e33, e32, e31, e9, rfl⟩
   refine go_keep [9, 31, 32, 33] ?_
   (refine sJ4 @e9 @e31 @e32 @e33 ?_; try with_reducible exact True.intro)
   (intros; try refine go_st ?_); refine go_r 0 0 (by decide) ?_; (refine sJ c65r8.eq_1 ?_; try with_reducible exact True.intro)
   (intros; try refine go_st ?_); refine go_c ?_; (refine sI ?_; try with_reducible exact True.intro)
   refine gb (fun ht => ?_) (fun ht => ?_)
   · have ht : i < x.length := by simpa using ht
     obtain ⟨y, hy⟩ : ∃ y, x[i]? = some y := ⟨x[i], List.getElem?_eq_getElem (by omega)⟩
     have hw := inc_i i x.length ht (by unfold maxLen; omega)
     have h7 : numB (x.take i) < 72057594037927936 := numB_7 (by simp; omega)
     have hyl := y.toNat_lt
     have hs : binV .shl (.int .u64 (numB (x.take i) : Int)) (.int .u64 8) = some (.int .u64 ((numB (x.take i) * 2 ^ 8 : Nat) : Int)) := bin_shl64 (s := 8) (by omega) (by omega) .u64
     have ho : binV .or (.int .u64 ((numB (x.take i) * 2 ^ 8 : Nat) : Int)) (.int .u64 (y.toNat : Int)) = some (.int .u64 (numB (x.take (i + 1)) : Int)) := by
       rw [bin_or64 (by omega) (by omega), or_apart (n := 8) (by omega), numB_succ hy]
     generalize hq : numB (x.take i) * 2 ^ 8 = q at hs ho
     (repeat first | (with_reducible intro _) | refine go_skip ?_ | refine go_b ?_)
     (intros; try refine go_st ?_); refine go_r 35 37 (by decide) ?_; (refine sJ c65r9.eq_1 ?_; try with_reducible exact True.intro)
     refine hC.x_l1 hy rfl rfl ?_
     rintro a1 ha1 u hu
     cases hu
     (refine sI ?_; try with_reducible exact True.intro)
     (intros; try refine go_st ?_); refine go_r 37 42 (by decide) ?_; (refine sJ4 c65r10.eq_1 @hs (cv_u8 y.toNat hyl) @ho ?_; try with_reducible exact True.intro)
     (intros; try refine go_st ?_); refine go_r 42 43 (by decide) ?_; (refine sJ2 c65r11.eq_1 @hw ?_; try with_reducible exact True.intro)
     (intros; try refine go_st ?_)
     refine go_l ⟨⟨i + 1, by omega, eE, eE, eE, eE, rfl⟩, ?_⟩
     (refine sI ?_; try with_reducible exact True.intro)
     omega
   · have ht : i = x.length := by simp at ht; omega
     subst ht
     refine go_exit ?_
     (refine sI ?_; try with_reducible exact True.intro)
     (intros; try refine go_st ?_); refine go_r 43 44 (by decide) ?_; (refine sJ c65r12.eq_1 ?_; try with_reducible exact True.intro)
     (intros; try refine go_st ?_)
     refine go_ret (retQ_v rfl ?_); simp only [push_cast, Nat.reduceBEq]
     rw [List.take_of_length_le (by omega)]
theorem RNGet_ok (l : List UInt8) (a : Int) (k : Nat) (hk : 1 ≤ k ∧ k ≤ 8) (v : Value) (G : Nat → Option Obj) (hl : SB G v l) :
   FnS Try.prog 69 #[v, .int .i64 a, .int .i64 (k : Int)] G (.tuple #[.int .u64 ((getN l a k).1 : Int), .int .i64 (getN l a k).2]) := by
 obtain ⟨A, c, rfl, hc, hm, hA⟩ := id hl
 refine F69.fnS (by simp) (go_of ?_)
 unfold c69
 unfold maxLen at hm
 (intros; try refine go_st ?_); refine go_r 0 0 (by decide) ?_; (refine sJ c69r0.eq_1 ?_; try with_reducible exact True.intro)
 (intros; try refine go_st ?_); refine go_r 10 19 (by decide) ?_; (refine sJ c69r1.eq_1 ?_; try with_reducible exact True.intro)
 refine gd (fun h1 => absurd (of_decide_eq_true h1) (by omega)) (fun h1 => ?_)
 (refine sI ?_; try with_reducible exact True.intro)
 have h2 : decide ((8 : Int) < (k : Int)) = false := decide_eq_false (by omega)
 (refine sJ @h2 ?_; try with_reducible exact True.intro)
 (intros; try refine go_st ?_); refine go_c ?_; (refine sI ?_; try with_reducible exact True.intro)
 refine gb (fun h3 => ?_) (fun h3 => ?_)
 · have h3 := of_decide_eq_true h3
   (intros; try refine go_st ?_); refine go_r 0 0 (by decide) ?_; (refine sJ c69r2.eq_1 ?_; try with_reducible exact True.intro)
   (intros; try refine go_st ?_)
   refine go_ret (retQ_v rfl ?_); simp only [push_cast, Nat.reduceBEq]
   rw [getN_neg h3]
   rfl
 have h3 := of_decide_eq_false h3
 obtain ⟨a, rfl⟩ : ∃ n : Nat, a = n := ⟨a.toNat, by omega⟩
 rw [getN_nat]
 have hbad : (l.drop a).length < k → ∀ (fr : List Td) (e : Env), go none Try.prog 48 v69.1 v69.2 (retQ o69 fun v h => v = .tuple #[.int .u64 ((if (l.drop a).length < k then ((0 : Nat), (10 : Int)) else (numB ((l.drop a).take k), 0)).1 : Int), .int .i64 (if (l.drop a).length < k then ((0 : Nat), (10 : Int)) else (numB ((l.drop a).take k), 0)).2]) (Td.s ((SC.reg false c69r4).seq .ret) :: fr) e ⟨G, [], []⟩ := fun hx fr e => by
   (intros; try refine go_st ?_); refine go_r 0 0 (by decide) ?_; (refine sJ c69r4.eq_1 ?_; try with_reducible exact True.intro)
   (intros; try refine go_st ?_)
   refine go_ret (retQ_v rfl ?_); simp only [push_cast, Nat.reduceBEq]
   rw [if_pos hx]
   rfl
 (repeat first | (with_reducible intro _) | refine go_skip ?_ | refine go_b ?_)
 (intros; try refine go_st ?_); refine go_r 20 31 (by decide) ?_; (refine sJ c69r3.eq_1 ?_; try with_reducible exact True.intro)
 refine gd (fun h4 => ?_) (fun h4 => ?_)
 · have h4 := of_decide_eq_true h4
   (refine sI ?_; try with_reducible exact True.intro)
   (intros; try refine go_st ?_); refine go_c ?_; (refine sI ?_; try with_reducible exact True.intro)
   exact hbad (by simp; omega) _ _
 have h4 := of_decide_eq_false h4
 have w1 : IntKind.i64.wrap ((l.length : Int) - a) = (l.length : Int) - a := by rw [w64_id] <;> omega
 (refine sJ @w1 ?_; try with_reducible exact True.intro)
 (intros; try refine go_st ?_); refine go_c ?_; (refine sI ?_; try with_reducible exact True.intro)
 refine gb (fun h5 => ?_) (fun h5 => ?_)
 · have h5 := of_decide_eq_true h5
   exact hbad (by simp; omega) _ _
 have h5 := of_decide_eq_false h5
 clear hbad
 rw [if_neg (by simp; omega)]
 generalize hm : l.drop a = m
 have hml : k ≤ m.length := by rw [← hm]; simp; omega
 (repeat first | (with_reducible intro _) | refine go_skip ?_ | refine go_b ?_)
 (intros; try refine go_st ?_); refine go_r 0 0 (by decide) ?_; (refine sJ c69r5.eq_1 ?_; try with_reducible exact True.intro)
 (intros; try refine go_st ?_); refine go_r 0 0 (by decide) ?_; (refine sJ c69r6.eq_1 ?_; try with_reducible exact True.intro)
 (intros; try refine go_st ?_)
 refine go_loop (fun e h => ∃ (i : Nat), i ≤ k ∧ e 33 = .int .i64 i ∧ e 32 = .int .i64 k ∧ e 0 = .slice A l.length c ∧ e 1 = .int .i64 (a : Int) ∧ e 8 = .int .u64 (numB (m.take i) : Int) ∧ h = ⟨G, [], []⟩) (fun e h => k - iv (e 33)) ?_ ?_
 · exact ⟨0, Nat.zero_le _, eE, eE, eE, eE, by (refine sI ?_; try with_reducible exact True.intro); rfl, rfl⟩
 · rintro e h ⟨i, hi, e33, e32, e0, e1, e8, rfl⟩
   refine go_keep [0, 1, 8, 32, 33] ?_
   (refine sJ5 @e0 @e1 @e8 @e32 @e33 ?_; try with_reducible exact True.intro)
   (intros; try refine go_st ?_); refine go_r 0 0 (by decide) ?_; (refine sJ c69r7.eq_1 ?_; try with_reducible exact True.intro)
   (intros; try refine go_st ?_); refine go_c ?_; (refine sI ?_; try with_reducible exact True.intro)
   refine gb (fun ht => ?_) (fun ht => ?_)
   · have ht : i < k := by simpa using ht
     obtain ⟨y, hy⟩ : ∃ y, m[i]? = some y := ⟨m[i], List.getElem?_eq_getElem (by omega)⟩
     have hy' : l[a + i]? = some y := by rw [← hm, List.getElem?_drop] at hy; exact hy
     have hw := inc_i i k ht (by unfold maxLen; omega)
     have h7 : numB (m.take i) < 72057594037927936 := numB_7 (by simp; omega)
     have hyl := y.toNat_lt
     have w2 : IntKind.i64.wrap ((a : Int) + i) = ((a + i : Nat) : Int) := by rw [w64_id] <;> omega
     have w3 : IntKind.u64.wrap (IntKind.u64.wrap ((numB (m.take i) : Int) * 256) + (y.toNat : Int)) = (numB (m.take (i + 1)) : Int) := by
       rw [numB_succ hy, IntKind.wrap_u64, IntKind.wrap_u64]
       omega
     (repeat first | (with_reducible intro _) | refine go_skip ?_ | refine go_b ?_)
     (intros; try refine go_st ?_); refine go_r 35 36 (by decide) ?_; (refine sJ c69r8.eq_1 ?_; try with_reducible exact True.intro)
     (intros; try refine go_st ?_); refine go_r 36 46 (by decide) ?_; (refine sJ3 c69r9.eq_1 @w2 @bin_mul ?_; try with_reducible exact True.intro)
     refine hA.x_l1 hy' (by omega) rfl ?_
     rintro a1 ha1 u hu
     cases hu
     (refine sJ3 (cv_u8 y.toNat hyl) @bin_add @w3 ?_; try with_reducible exact True.intro)
     (intros; try refine go_st ?_); refine go_r 46 47 (by decide) ?_; (refine sJ2 c69r10.eq_1 @hw ?_; try with_reducible exact True.intro)
     (intros; try refine go_st ?_)
     refine go_l ⟨⟨i + 1, by omega, eE, eE, eE, eE, eE, rfl⟩, ?_⟩
     (refine sI ?_; try with_reducible exact True.intro)
     omega
   · have ht : i = k := by simp at ht; omega
     subst ht
     refine go_exit ?_
     (refine sI ?_; try with_reducible exact True.intro)
     (intros; try refine go_st ?_); refine go_r 47 48 (by decide) ?_; (refine sJ c69r11.eq_1 ?_; try with_reducible exact True.intro)
     (intros; try refine go_st ?_)
     refine go_ret (retQ_v rfl ?_); simp only [push_cast, Nat.reduceBEq]
def getF (l : List UInt8) (a : Nat) : Bool × Int × Int := match l[a]? with
 | none => (false, 0, 10)
 | some x => if 1 < x.toNat then (false, 0, 11) else (decide (x.toNat = 1), a + 1, 0)
theorem flag_ok (l : List UInt8) (a : Nat) (v : Value) (G : Nat → Option Obj) (hl : SB G v l) :
   FnS Try.prog 108 #[v, .int .i64 (a : Int)] G (.tuple #[.bool (getF l a).1, .int .i64 (getF l a).2.1, .int .i64 (getF l a).2.2]) := by
 obtain ⟨A, c, rfl, hc, hm, hA⟩ := id hl
 refine F108.fnS (by simp) (go_of ?_)
 unfold c108
 (intros; try refine go_st ?_); refine go_r 0 0 (by decide) ?_; (refine sJ c108r0.eq_1 ?_; try with_reducible exact True.intro)
 (intros; try refine go_st ?_); refine go_r 8 12 (by decide) ?_; (refine sJ c108r1.eq_1 ?_; try with_reducible exact True.intro)
 (intros; try refine go_st ?_); refine go_c ?_; (refine sI ?_; try with_reducible exact True.intro)
 refine gb (fun h1 => ?_) (fun h1 => ?_)
 · have h1 := of_decide_eq_true h1
   (intros; try refine go_st ?_); refine go_r 0 0 (by decide) ?_; (refine sJ c108r2.eq_1 ?_; try with_reducible exact True.intro)
   (intros; try refine go_st ?_)
   refine go_ret (retQ_v rfl ?_); simp only [push_cast, Nat.reduceBEq]
   rw [getF, List.getElem?_eq_none (by omega)]
 have h1 := of_decide_eq_false h1
 obtain ⟨y, hy⟩ : ∃ y, l[a]? = some y := ⟨l[a]'(by omega), List.getElem?_eq_getElem _⟩
 rw [getF, hy]
 dsimp only
 (intros; try refine go_st ?_); refine go_r 13 18 (by decide) ?_; (refine sJ c108r3.eq_1 ?_; try with_reducible exact True.intro)
 refine hA.x_l1 hy rfl rfl ?_
 rintro a1 ha1 u hu
 cases hu
 (refine sI ?_; try with_reducible exact True.intro)
 (intros; try refine go_st ?_); refine go_c ?_; (refine sI ?_; try with_reducible exact True.intro)
 refine gb (fun h2 => ?_) (fun h2 => ?_)
 · have h2 := of_decide_eq_true h2
   (intros; try refine go_st ?_); refine go_r 0 0 (by decide) ?_; (refine sJ c108r4.eq_1 ?_; try with_reducible exact True.intro)
   (intros; try refine go_st ?_)
   refine go_ret (retQ_v rfl ?_); simp only [push_cast, Nat.reduceBEq]
   rw [if_pos (by omega)]
 have h2 := of_decide_eq_false h2
 rw [if_neg (by omega)]
 have hw := inc_i a l.length (by omega) (by omega)
 (repeat first | (with_reducible intro _) | refine go_skip ?_ | refine go_b ?_)
 (intros; try refine go_st ?_); refine go_r 18 25 (by decide) ?_; (refine sJ2 c108r5.eq_1 @hw ?_; try with_reducible exact True.intro)
 refine hA.x_l1 hy rfl rfl ?_
 rintro a1 ha1 u hu
 cases hu
 (refine sJ @hw ?_; try with_reducible exact True.intro)
 (intros; try refine go_st ?_)
 refine go_ret (retQ_v rfl ?_); simp only [push_cast, Nat.reduceBEq]
 congr 3
 simp
 omega
theorem F86 : Fun Try.prog 86 58 v86 c86 o86 := Fun.mk' Try.func86 Try.ntmps86 (by kernel_rfl) (by kernel_rfl) s86 q86
theorem F90 : Fun Try.prog 90 73 v90 c90 o90 := Fun.mk' Try.func90 Try.ntmps90 (by kernel_rfl) (by kernel_rfl) s90 q90
theorem F104 : Fun Try.prog 104 45 v104 c104 o104 := Fun.mk' Try.func104 Try.ntmps104 (by kernel_rfl) (by kernel_rfl) s104 q104
theorem F111 : Fun Try.prog 111 43 v111 c111 o111 := Fun.mk' Try.func111 Try.ntmps111 (by kernel_rfl) (by kernel_rfl) s111 q111
def gvL : Nat → Nat → List UInt8 → Int × Nat × Nat
 | _, _, [] => (10, 0, 0)
 | i, z, x :: xs => if (i = 9 ∧ 1 < x.toNat) ∨ (0 < i ∧ x.toNat = 0) then (11, 0, 0) else if x.toNat < 128 then (0, z + 128 ^ i * (x.toNat % 128), i + 1) else gvL (i + 1) (z + 128 ^ i * (x.toNat % 128)) xs
def zag (z : Nat) : Int := if z % 2 = 0 then ((z / 2 : Nat) : Int) else -((z / 2 : Nat) : Int) - 1
def getV (l : List UInt8) (a : Int) : Int × Int × Int := if a < 0 then (0, 0, 1) else if (gvL 0 0 (l.drop a.toNat)).1 = 0 then (zag (gvL 0 0 (l.drop a.toNat)).2.1, a + (gvL 0 0 (l.drop a.toNat)).2.2, 0) else (0, 0, (gvL 0 0 (l.drop a.toNat)).1)
theorem gvL_nil (i z : Nat) : gvL i z [] = (10, 0, 0) := rfl
theorem gvL_bad {i z : Nat} {x : UInt8} {xs : List UInt8} (h : (i = 9 ∧ 1 < x.toNat) ∨ (0 < i ∧ x.toNat = 0)) : gvL i z (x :: xs) = (11, 0, 0) := by rw [gvL, if_pos h]
theorem gvL_end {i z : Nat} {x : UInt8} {xs : List UInt8} (h : ¬ ((i = 9 ∧ 1 < x.toNat) ∨ (0 < i ∧ x.toNat = 0))) (h2 : x.toNat < 128) : gvL i z (x :: xs) = (0, z + 128 ^ i * (x.toNat % 128), i + 1) := by rw [gvL, if_neg h, if_pos h2]
theorem gvL_more {i z : Nat} {x : UInt8} {xs : List UInt8} (h : ¬ ((i = 9 ∧ 1 < x.toNat) ∨ (0 < i ∧ x.toNat = 0))) (h2 : ¬ x.toNat < 128) : gvL i z (x :: xs) = gvL (i + 1) (z + 128 ^ i * (x.toNat % 128)) xs := by rw [gvL, if_neg h, if_neg h2]
theorem pow_9 {i : Nat} (h : i ≤ 9) : 128 ^ i ≤ 9223372036854775808 := by
 have : 128 ^ i ≤ 128 ^ 9 := Nat.pow_le_pow_right (by decide) h
 omega
theorem pow_8 {i : Nat} (h : i ≤ 8) : 128 ^ i ≤ 72057594037927936 := by
 have : 128 ^ i ≤ 128 ^ 8 := Nat.pow_le_pow_right (by decide) h
 omega
theorem step_lt {i z x : Nat} (hi : i ≤ 9) (hz : z < 128 ^ i) (hx : ¬ (i = 9 ∧ 1 < x)) (hx2 : x < 256) : 128 ^ i * (x % 128) < 18446744073709551616 ∧ z + 128 ^ i * (x % 128) < 18446744073709551616 ∧ (i ≤ 8 → z + 128 ^ i * (x % 128) < 128 ^ (i + 1)) := by
 have h128 : x % 128 ≤ 127 := by omega
 have h1 : 128 ^ i * (x % 128) ≤ 128 ^ i * 127 := Nat.mul_le_mul_left _ h128
 have h3 : 128 ^ (i + 1) = 128 ^ i * 128 := Nat.pow_succ ..
 by_cases h9 : i = 9
 · subst h9
   have : x ≤ 1 := by omega
   have h4 : 128 ^ 9 * (x % 128) ≤ 128 ^ 9 * 1 := Nat.mul_le_mul_left _ (by omega)
   omega
 · have := pow_8 (show i ≤ 8 by omega)
   omega
theorem gvL_lt : ∀ (m : List UInt8) (i z : Nat), i ≤ 9 → z < 128 ^ i → (gvL i z m).1 = 0 → (gvL i z m).2.1 < 18446744073709551616 ∧ i < (gvL i z m).2.2 ∧ (gvL i z m).2.2 ≤ i + m.length
 | [], i, z, _, _, h => by simp [gvL] at h
 | x :: xs, i, z, hi, hz, h => by
   by_cases h1 : (i = 9 ∧ 1 < x.toNat) ∨ (0 < i ∧ x.toNat = 0)
   · rw [gvL_bad h1] at h; cases h
   · obtain ⟨s1, s2, s3⟩ := step_lt hi hz (fun h => h1 (.inl h)) x.toNat_lt
     by_cases h2 : x.toNat < 128
     · rw [gvL_end h1 h2]
       exact ⟨s2, by simp, by simp⟩
     · have hi8 : i ≤ 8 := by omega
       rw [gvL_more h1 h2] at h ⊢
       obtain ⟨a, b, c⟩ := gvL_lt xs (i + 1) _ (by omega) (s3 hi8) h
       refine ⟨a, by omega, by simp; omega⟩
theorem zag_i {z : Nat} (h : z < 18446744073709551616) : I64 (zag z) := by
 unfold zag I64
 split <;> omega
theorem xor_zag {z : Nat} (hz : z < 18446744073709551616) : binV .xor (.int .i64 ((z / 2 : Nat) : Int)) (.int .i64 (IntKind.i64.wrap (0 - ((z % 2 : Nat) : Int)))) = some (.int .i64 (zag z)) := by
 have key : IntKind.i64.wrap (((BitVec.ofInt 64 ((z / 2 : Nat) : Int) ^^^ BitVec.ofInt 64 (IntKind.i64.wrap (0 - ((z % 2 : Nat) : Int)))).toNat : Nat) : Int) = zag z := by
   by_cases h0 : z % 2 = 0
   · have e2 : IntKind.i64.wrap (0 - ((z % 2 : Nat) : Int)) = 0 := by rw [h0]; rfl
     rw [e2]
     have : BitVec.ofInt 64 0 = 0#64 := rfl
     rw [this, BitVec.xor_zero, ofInt64 (by omega), zag, if_pos h0, w64_id]
     omega
   · have e2 : IntKind.i64.wrap (0 - ((z % 2 : Nat) : Int)) = -1 := by rw [show z % 2 = 1 by omega]; rfl
     rw [e2]
     have : BitVec.ofInt 64 (-1) = BitVec.allOnes 64 := by decide
     rw [this, BitVec.xor_allOnes, BitVec.toNat_not, ofInt64 (by omega), zag, if_neg h0, IntKind.wrap_i64]
     omega
 simp only [binV]
 rw [if_pos trivial]
 exact congrArg (fun n => some (Value.int .i64 n)) key
theorem bin_shr1_64 (z : Nat) : binV .shr (.int .u64 (z : Int)) (.int .u64 1) = some (.int .u64 ((z / 2 : Nat) : Int)) := by
 simp [binV, IntKind.bits]
 rw [Int.fdiv_eq_ediv_of_nonneg _ (by omega)]
theorem bin_and1_64 {z : Nat} (hz : z < 18446744073709551616) : binV .and (.int .u64 (z : Int)) (.int .u64 1) = some (.int .u64 ((z % 2 : Nat) : Int)) := by
 have := bin_and64 (b := 1) hz (by omega)
 rw [Nat.and_one_is_mod] at this
 exact this
theorem GetVar_ok (l : List UInt8) (a : Int) (v : Value) (G : Nat → Option Obj) (hl : SB G v l) :
   FnS Try.prog 86 #[v, .int .i64 a] G (.tuple #[.int .i64 (getV l a).1, .int .i64 (getV l a).2.1, .int .i64 (getV l a).2.2]) := by
 obtain ⟨A, c, rfl, hc, hm, hA⟩ := id hl
 unfold maxLen at hm
 refine F86.fnS (by simp) (go_of ?_)
 unfold c86
 (intros; try refine go_st ?_); refine go_r 0 0 (by decide) ?_; (refine sJ c86r0.eq_1 ?_; try with_reducible exact True.intro)
 (intros; try refine go_st ?_); refine go_r 10 11 (by decide) ?_; (refine sJ c86r1.eq_1 ?_; try with_reducible exact True.intro)
 (intros; try refine go_st ?_); refine go_c ?_; (refine sI ?_; try with_reducible exact True.intro)
 refine gb (fun h1 => ?_) (fun h1 => ?_)
 · have h1 := of_decide_eq_true h1
   (intros; try refine go_st ?_); refine go_r 0 0 (by decide) ?_; (refine sJ c86r2.eq_1 ?_; try with_reducible exact True.intro)
   (intros; try refine go_st ?_)
   refine go_ret (retQ_v rfl ?_); simp only [push_cast, Nat.reduceBEq]
   rw [getV, if_pos h1]
 have h1 := of_decide_eq_false h1
 obtain ⟨a, rfl⟩ : ∃ n : Nat, a = n := ⟨a.toNat, by omega⟩
 have hgv : getV l (a : Int) = if (gvL 0 0 (l.drop a)).1 = 0 then (zag (gvL 0 0 (l.drop a)).2.1, (a : Int) + (gvL 0 0 (l.drop a)).2.2, 0) else (0, 0, (gvL 0 0 (l.drop a)).1) := by
   rw [getV, if_neg h1]
   rfl
 have hdl : a + (l.drop a).length ≤ l.length ∨ l.drop a = [] := by
   by_cases h : a ≤ l.length
   · left; simp; omega
   · right; exact List.drop_of_length_le (by omega)
 rw [hgv]
 (repeat first | (with_reducible intro _) | refine go_skip ?_ | refine go_b ?_)
 (intros; try refine go_st ?_); refine go_r 0 0 (by decide) ?_; (refine sJ c86r3.eq_1 ?_; try with_reducible exact True.intro)
 (intros; try refine go_st ?_); refine go_r 12 14 (by decide) ?_; (refine sJ c86r4.eq_1 ?_; try with_reducible exact True.intro)
 refine (from_ok l a _ G hl _ _).mono ?_
 rintro r h' ⟨hr, rfl⟩
 generalize hm0 : l.drop a = m at hr hdl ⊢
 obtain ⟨B, d, rfl, hd, hdm, hB⟩ := hr
 (refine sI ?_; try with_reducible exact True.intro)
 (intros; try refine go_st ?_)
 refine go_loop (fun e h => ∃ (i z : Nat), (i ≤ m.length ∧ i ≤ 9 ∧ z < 128 ^ i ∧ gvL 0 0 m = gvL i z (m.drop i)) ∧ e 16 = .int .i64 i ∧ e 15 = .int .i64 m.length ∧ e 14 = .slice B m.length d ∧ e 7 = .int .u64 (z : Int) ∧ e 1 = .int .i64 (a : Int) ∧ h = ⟨G, [], []⟩) (fun e h => m.length - iv (e 16)) ?_ ?_
 · exact ⟨0, 0, ⟨Nat.zero_le _, by omega, by simp, by simp⟩, eE, eE, eE, eE, eE, rfl⟩
 · rintro e h ⟨i, z, ⟨hi, hi9, hz, heq⟩, e16, e15, e14, e7, e1, rfl⟩
   refine go_keep [1, 7, 14, 15, 16] ?_
   (refine sJ5 @e1 @e7 @e14 @e15 @e16 ?_; try with_reducible exact True.intro)
   (intros; try refine go_st ?_); refine go_r 0 0 (by decide) ?_; (refine sJ c86r5.eq_1 ?_; try with_reducible exact True.intro)
   (intros; try refine go_st ?_); refine go_c ?_; (refine sI ?_; try with_reducible exact True.intro)
   refine gb (fun ht => ?_) (fun ht => ?_)
   · have ht : i < m.length := by simpa using ht
     have hal : a + m.length ≤ l.length := by
       rcases hdl with h | h
       · exact h
       · rw [h] at ht; simp at ht
     obtain ⟨y, hy⟩ : ∃ y, m[i]? = some y := ⟨m[i], List.getElem?_eq_getElem (by omega)⟩
     have hy0 := List.getElem?_eq_some_iff.1 hy
     rw [List.drop_eq_getElem_cons ht, hy0.2] at heq
     have hw := inc_i i m.length ht (by omega)
     have hyl := y.toNat_lt
     (repeat first | (with_reducible intro _) | refine go_skip ?_ | refine go_b ?_)
     (intros; try refine go_st ?_); refine go_r 18 21 (by decide) ?_; (refine sJ c86r6.eq_1 ?_; try with_reducible exact True.intro)
     refine hB.x_l1 hy rfl rfl ?_
     rintro a1 ha1 u hu
     cases hu
     (refine sI ?_; try with_reducible exact True.intro)
     (repeat (with_reducible intro _)); try refine go_seq ?_
     refine go_cut (fun e h => ¬ ((i = 9 ∧ 1 < y.toNat) ∨ (0 < i ∧ y.toNat = 0)) ∧ e 16 = .int .i64 i ∧ e 15 = .int .i64 m.length ∧ e 14 = .slice B m.length d ∧ e 7 = .int .u64 (z : Int) ∧ e 1 = .int .i64 (a : Int) ∧ e 8 = .int .i64 i ∧ e 9 = .int .u8 (y.toNat : Int) ∧ h = ⟨G, [], []⟩) ?_ ?_
     · have hbad : ((i = 9 ∧ 1 < y.toNat) ∨ (0 < i ∧ y.toNat = 0)) → ∀ (fr : List Td) (e : Env), go none Try.prog 58 v86.1 v86.2 (retQ o86 fun v h => v = .tuple #[.int .i64 (if (gvL 0 0 m).1 = 0 then (zag (gvL 0 0 m).2.1, (a : Int) + (gvL 0 0 m).2.2, 0) else (0, 0, (gvL 0 0 m).1)).1, .int .i64 (if (gvL 0 0 m).1 = 0 then (zag (gvL 0 0 m).2.1, (a : Int) + (gvL 0 0 m).2.2, 0) else (0, 0, (gvL 0 0 m).1)).2.1, .int .i64 (if (gvL 0 0 m).1 = 0 then (zag (gvL 0 0 m).2.1, (a : Int) + (gvL 0 0 m).2.2, 0) else (0, 0, (gvL 0 0 m).1)).2.2]) (Td.s ((SC.reg false c86r8).seq .ret) :: fr) e ⟨G, [], []⟩ := fun hx fr e => by
         (intros; try refine go_st ?_); refine go_r 0 0 (by decide) ?_; (refine sJ c86r8.eq_1 ?_; try with_reducible exact True.intro)
         (intros; try refine go_st ?_)
         refine go_ret (retQ_v rfl ?_); simp only [push_cast, Nat.reduceBEq]
         rw [heq, gvL_bad hx]
         rfl
       (intros; try refine go_st ?_); refine go_r 21 34 (by decide) ?_; (refine sJ c86r7.eq_1 ?_; try with_reducible exact True.intro)
       refine gd (fun k1 => ?_) (fun k1 => ?_)
       · have k1 : i = 9 := by have := of_decide_eq_true k1; omega
         have hp : decide ((0 : Int) < (i : Int)) = true := decide_eq_true (by omega)
         (refine sI ?_; try with_reducible exact True.intro)
         refine gd (fun k2 => ?_) (fun k2 => ?_)
         · have k2 := of_decide_eq_true k2
           (refine sI ?_; try with_reducible exact True.intro)
           (intros; try refine go_st ?_); refine go_c ?_; (refine sI ?_; try with_reducible exact True.intro)
           exact hbad (.inl ⟨k1, by omega⟩) _ _
         · have k2 := of_decide_eq_false k2
           (refine sJ @hp ?_; try with_reducible exact True.intro)
           (intros; try refine go_st ?_); refine go_c ?_; (refine sI ?_; try with_reducible exact True.intro)
           refine gb (fun k3 => ?_) (fun k3 => ?_)
           · exact hbad (.inr ⟨by omega, by have := of_decide_eq_true k3; omega⟩) _ _
           · have k3 := of_decide_eq_false k3
             (intros; try refine go_st ?_)
             exact go_l ⟨by omega, eE, eE, eE, eE, eE, eE, eE, rfl⟩
       · have k1 : ¬ i = 9 := by have := of_decide_eq_false k1; omega
         (refine sI ?_; try with_reducible exact True.intro)
         refine gd (fun k2 => ?_) (fun k2 => ?_)
         · have k2 := of_decide_eq_true k2
           (refine sI ?_; try with_reducible exact True.intro)
           (intros; try refine go_st ?_); refine go_c ?_; (refine sI ?_; try with_reducible exact True.intro)
           refine gb (fun k3 => ?_) (fun k3 => ?_)
           · exact hbad (.inr ⟨by omega, by have := of_decide_eq_true k3; omega⟩) _ _
           · have k3 := of_decide_eq_false k3
             (intros; try refine go_st ?_)
             exact go_l ⟨by omega, eE, eE, eE, eE, eE, eE, eE, rfl⟩
         · have k2 := of_decide_eq_false k2
           (refine sI ?_; try with_reducible exact True.intro)
           (intros; try refine go_st ?_); refine go_c ?_; (refine sI ?_; try with_reducible exact True.intro)
           (intros; try refine go_st ?_)
           exact go_l ⟨by omega, eE, eE, eE, eE, eE, eE, eE, rfl⟩
     rintro e h ⟨hgood, e16, e15, e14, e7, e1, e8, e9, rfl⟩
     refine go_keep [1, 7, 8, 9, 14, 15, 16] ?_
     (refine sJ7 @e1 @e7 @e8 @e9 @e14 @e15 @e16 ?_; try with_reducible exact True.intro)
     obtain ⟨s1, s2, s3⟩ := step_lt hi9 hz (fun h => hgood (.inl h)) hyl
     have hp7 : 128 ^ i = 2 ^ (7 * i) := by rw [Nat.pow_mul]
     have w7 : IntKind.i64.wrap (7 * (i : Int)) = ((7 * i : Nat) : Int) := by rw [w64_id] <;> omega
     have hs : binV .shl (.int .u64 ((y.toNat % 128 : Nat) : Int)) (.int .i64 ((7 * i : Nat) : Int)) = some (.int .u64 ((y.toNat % 128 * 2 ^ (7 * i) : Nat) : Int)) := bin_shl64 (by omega) (by rw [← hp7, Nat.mul_comm]; exact s1) .i64
     have ho : binV .or (.int .u64 (z : Int)) (.int .u64 ((y.toNat % 128 * 2 ^ (7 * i) : Nat) : Int)) = some (.int .u64 ((z + 128 ^ i * (y.toNat % 128) : Nat) : Int)) := by
       rw [bin_or64 (by omega) (by rw [← hp7, Nat.mul_comm]; exact s1), Nat.or_comm, or_apart (by rw [← hp7]; exact hz), ← hp7, Nat.mul_comm, Nat.add_comm]
     have hcu : IntKind.u64.wrap ((y.toNat % 128 : Nat) : Int) = ((y.toNat % 128 : Nat) : Int) := wrap64 (by omega)
     have hx127 := and_127 y
     generalize hq : y.toNat % 128 = q at hs ho hcu hx127
     generalize hz' : z + 128 ^ i * q = z' at ho
     generalize hqq : q * 2 ^ (7 * i) = qq at hs ho
     generalize h7i : 7 * i = j7 at hs w7
     have hz2 : z' < 18446744073709551616 := by rw [← hz', ← hq]; exact s2
     (intros; try refine go_st ?_); refine go_r 35 43 (by decide) ?_; (refine sJ6 c86r9.eq_1 @hx127 @hcu @w7 @hs @ho ?_; try with_reducible exact True.intro)
     (intros; try refine go_st ?_); refine go_r 43 44 (by decide) ?_; (refine sJ c86r10.eq_1 ?_; try with_reducible exact True.intro)
     (intros; try refine go_st ?_); refine go_c ?_; (refine sI ?_; try with_reducible exact True.intro)
     refine gb (fun k3 => ?_) (fun k3 => ?_)
     · have k3 := of_decide_eq_true k3
       have w8 : IntKind.i64.wrap ((a : Int) + i) = ((a + i : Nat) : Int) := by rw [w64_id] <;> omega
       have w9 : IntKind.i64.wrap (((a + i : Nat) : Int) + 1) = ((a + i + 1 : Nat) : Int) := by rw [w64_id] <;> omega
       have hx := xor_zag hz2
       have hcz : IntKind.i64.wrap ((z' / 2 : Nat) : Int) = ((z' / 2 : Nat) : Int) := by rw [w64_id] <;> omega
       have hcm : IntKind.i64.wrap ((z' % 2 : Nat) : Int) = ((z' % 2 : Nat) : Int) := by rw [w64_id] <;> omega
       have ha1 := bin_and1_64 hz2
       have hs1 := bin_shr1_64 z'
       generalize hv1 : z' / 2 = v1 at hx hcz hs1
       generalize hv2 : z' % 2 = v2 at hx hcm ha1
       generalize hv3 : a + i = v3 at w8 w9
       generalize hv4 : v3 + 1 = v4 at w9
       (intros; try refine go_st ?_); refine go_r 45 57 (by decide) ?_; (try simp -implicitDefEqProofs only [kR_e, kQ_e, push_cast, Nat.reduceBEq, Nat.reduceAdd, Nat.reduceSub, Nat.reduceMul, Nat.reduceLT, Nat.reduceLeDiff, Nat.reduceEqDiff, reduceIte, Bool.not_true, Bool.not_false, true_and, and_true, Option.map_some, Option.bind_some, Int.toNat_natCast, c86r11, hs1, ha1, hcz, hcm, hx, w8, w9])
       (intros; try refine go_st ?_)
       refine go_ret (retQ_v rfl ?_); simp only [push_cast, Nat.reduceBEq]
       have hend := gvL_end (z := z) (xs := m.drop (i + 1)) hgood (by omega)
       rw [heq, hend]
       simp only [if_true]
       rw [hq, hz', ← hv4, ← hv3]
       simp [Int.add_assoc]
     · have k3 := of_decide_eq_false k3
       have hi8 : i ≤ 8 := by omega
       rw [gvL_more hgood (by omega), hq, hz'] at heq
       (repeat first | (with_reducible intro _) | refine go_skip ?_ | refine go_b ?_)
       (intros; try refine go_st ?_); refine go_r 57 58 (by decide) ?_; (refine sJ2 c86r12.eq_1 @hw ?_; try with_reducible exact True.intro)
       (intros; try refine go_st ?_)
       refine go_l ⟨⟨i + 1, z', ⟨by omega, by omega, by rw [← hz', ← hq]; exact s3 hi8, heq⟩, eE, eE, eE, eE, eE, rfl⟩, ?_⟩
       (refine sI ?_; try with_reducible exact True.intro)
       omega
   · have ht : i = m.length := by simp at ht; omega
     rw [ht, List.drop_length, gvL_nil] at heq
     refine go_exit ?_
     (refine sI ?_; try with_reducible exact True.intro)
     (intros; try refine go_st ?_); refine go_r 0 0 (by decide) ?_; (refine sJ c86r13.eq_1 ?_; try with_reducible exact True.intro)
     (intros; try refine go_st ?_)
     refine go_ret (retQ_v rfl ?_); simp only [push_cast, Nat.reduceBEq]
     rw [heq]
     rfl
theorem RGetVar_ok (l : List UInt8) (a : Int) (v : Value) (G : Nat → Option Obj) (hl : SB G v l) :
   FnS Try.prog 90 #[v, .int .i64 a] G (.tuple #[.int .i64 (getV l a).1, .int .i64 (getV l a).2.1, .int .i64 (getV l a).2.2]) := by
 obtain ⟨A, c, rfl, hc, hm, hA⟩ := id hl
 unfold maxLen at hm
 refine F90.fnS (by simp) (go_of ?_)
 unfold c90
 (intros; try refine go_st ?_); refine go_r 0 0 (by decide) ?_; (refine sJ c90r0.eq_1 ?_; try with_reducible exact True.intro)
 (intros; try refine go_st ?_); refine go_r 12 13 (by decide) ?_; (refine sJ c90r1.eq_1 ?_; try with_reducible exact True.intro)
 (intros; try refine go_st ?_); refine go_c ?_; (refine sI ?_; try with_reducible exact True.intro)
 refine gb (fun h1 => ?_) (fun h1 => ?_)
 · have h1 := of_decide_eq_true h1
   (intros; try refine go_st ?_); refine go_r 0 0 (by decide) ?_; (refine sJ c90r2.eq_1 ?_; try with_reducible exact True.intro)
   (intros; try refine go_st ?_)
   refine go_ret (retQ_v rfl ?_); simp only [push_cast, Nat.reduceBEq]
   rw [getV, if_pos h1]
 have h1 := of_decide_eq_false h1
 obtain ⟨a, rfl⟩ : ∃ n : Nat, a = n := ⟨a.toNat, by omega⟩
 have hgv : getV l (a : Int) = if (gvL 0 0 (l.drop a)).1 = 0 then (zag (gvL 0 0 (l.drop a)).2.1, (a : Int) + (gvL 0 0 (l.drop a)).2.2, 0) else (0, 0, (gvL 0 0 (l.drop a)).1) := by
   rw [getV, if_neg h1]
   rfl
 rw [hgv]
 have hml : (l.drop a).length = l.length - a := by simp
 have hmg : ∀ i : Nat, (l.drop a)[i]? = l[a + i]? := fun i => by rw [List.getElem?_drop]
 generalize hm0 : l.drop a = m at hml hmg ⊢
 (repeat first | (with_reducible intro _) | refine go_skip ?_ | refine go_b ?_)
 (intros; try refine go_st ?_); refine go_r 0 0 (by decide) ?_; (refine sJ c90r3.eq_1 ?_; try with_reducible exact True.intro)
 (intros; try refine go_st ?_); refine go_r 0 0 (by decide) ?_; (refine sJ c90r4.eq_1 ?_; try with_reducible exact True.intro)
 (intros; try refine go_st ?_); refine go_r 0 0 (by decide) ?_; (refine sJ c90r5.eq_1 ?_; try with_reducible exact True.intro)
 (intros; try refine go_st ?_)
 refine go_loop (fun e h => ∃ (i z : Nat), (i ≤ m.length ∧ i ≤ 9 ∧ z < 128 ^ i ∧ gvL 0 0 m = gvL i z (m.drop i)) ∧ e 9 = .int .i64 i ∧ e 0 = .slice A l.length c ∧ e 7 = .int .u64 (z : Int) ∧ e 8 = .int .u64 ((128 ^ i : Nat) : Int) ∧ e 1 = .int .i64 (a : Int) ∧ h = ⟨G, [], []⟩) (fun e h => m.length - iv (e 9)) ?_ ?_
 · exact ⟨0, 0, ⟨Nat.zero_le _, by omega, by simp, by simp⟩, eE, eE, eE, by (refine sI ?_; try with_reducible exact True.intro); rfl, eE, rfl⟩
 · rintro e h ⟨i, z, ⟨hi, hi9, hz, heq⟩, e9, e0, e7, e8, e1, rfl⟩
   refine go_keep [0, 1, 7, 8, 9] ?_
   have hpu : 128 ^ i ≤ 9223372036854775808 := pow_9 hi9
   generalize hu : 128 ^ i = un at e8 hpu
   (refine sJ5 @e0 @e1 @e7 @e8 @e9 ?_; try with_reducible exact True.intro)
   have hbad : m.length ≤ i → ∀ (fr : List Td) (e : Env), go none Try.prog 73 v90.1 v90.2 (retQ o90 fun v h => v = .tuple #[.int .i64 (if (gvL 0 0 m).1 = 0 then (zag (gvL 0 0 m).2.1, (a : Int) + (gvL 0 0 m).2.2, 0) else (0, 0, (gvL 0 0 m).1)).1, .int .i64 (if (gvL 0 0 m).1 = 0 then (zag (gvL 0 0 m).2.1, (a : Int) + (gvL 0 0 m).2.2, 0) else (0, 0, (gvL 0 0 m).1)).2.1, .int .i64 (if (gvL 0 0 m).1 = 0 then (zag (gvL 0 0 m).2.1, (a : Int) + (gvL 0 0 m).2.2, 0) else (0, 0, (gvL 0 0 m).1)).2.2]) (Td.s ((SC.reg false c90r7).seq .ret) :: fr) e ⟨G, [], []⟩ := fun hx fr e => by
     rw [List.drop_of_length_le hx, gvL_nil] at heq
     (intros; try refine go_st ?_); refine go_r 0 0 (by decide) ?_; (refine sJ c90r7.eq_1 ?_; try with_reducible exact True.intro)
     (intros; try refine go_st ?_)
     refine go_ret (retQ_v rfl ?_); simp only [push_cast, Nat.reduceBEq]
     rw [heq]
     rfl
   (repeat (with_reducible intro _)); try refine go_seq ?_
   refine go_blk ?_
   (repeat (with_reducible intro _)); try refine go_seq ?_
   refine go_cut (fun e h => i < m.length ∧ e 9 = .int .i64 i ∧ e 0 = .slice A l.length c ∧ e 7 = .int .u64 (z : Int) ∧ e 8 = .int .u64 (un : Int) ∧ e 1 = .int .i64 (a : Int) ∧ h = ⟨G, [], []⟩) ?_ ?_
   · (intros; try refine go_st ?_); refine go_r 16 27 (by decide) ?_; (refine sJ c90r6.eq_1 ?_; try with_reducible exact True.intro)
     refine gd (fun k1 => ?_) (fun k1 => ?_)
     · have k1 := of_decide_eq_true k1
       (refine sI ?_; try with_reducible exact True.intro)
       (intros; try refine go_st ?_); refine go_c ?_; (refine sI ?_; try with_reducible exact True.intro)
       exact hbad (by omega) _ _
     · have k1 := of_decide_eq_false k1
       have w1 : IntKind.i64.wrap ((l.length : Int) - a) = (l.length : Int) - a := by rw [w64_id] <;> omega
       (refine sJ @w1 ?_; try with_reducible exact True.intro)
       (intros; try refine go_st ?_); refine go_c ?_; (refine sI ?_; try with_reducible exact True.intro)
       refine gb (fun k2 => ?_) (fun k2 => ?_)
       · have k2 := of_decide_eq_true k2
         exact hbad (by omega) _ _
       · have k2 := of_decide_eq_false k2
         (intros; try refine go_st ?_)
         exact go_l ⟨by omega, eE, eE, eE, eE, eE, rfl⟩
   rintro e h ⟨ht, e9, e0, e7, e8, e1, rfl⟩
   refine go_keep [0, 1, 7, 8, 9] ?_
   (refine sJ5 @e0 @e1 @e7 @e8 @e9 ?_; try with_reducible exact True.intro)
   clear hbad
   obtain ⟨y, hy⟩ : ∃ y, m[i]? = some y := ⟨m[i], List.getElem?_eq_getElem (by omega)⟩
   have hy0 := List.getElem?_eq_some_iff.1 hy
   rw [List.drop_eq_getElem_cons ht, hy0.2] at heq
   have hw := inc_i i m.length ht (by unfold maxLen; omega)
   have hyl := y.toNat_lt
   have hy' : l[a + i]? = some y := by rw [← hmg]; exact hy
   have w2 : IntKind.i64.wrap ((a : Int) + i) = ((a + i : Nat) : Int) := by rw [w64_id] <;> omega
   have w3 : IntKind.i64.wrap (((a + i : Nat) : Int) + 1) = ((a + i + 1 : Nat) : Int) := by rw [w64_id] <;> omega
   generalize hv3 : a + i = v3 at w2 w3 hy'
   generalize hv4 : v3 + 1 = v4 at w3
   (intros; try refine go_st ?_); refine go_r 28 34 (by decide) ?_; (refine sJ2 c90r8.eq_1 @w2 ?_; try with_reducible exact True.intro)
   refine hA.x_l1 hy' rfl rfl ?_
   rintro a1 ha1 u hu'
   cases hu'
   (refine sI ?_; try with_reducible exact True.intro)
   (repeat (with_reducible intro _)); try refine go_seq ?_
   refine go_cut (fun e h => ¬ ((i = 9 ∧ 1 < y.toNat) ∨ (0 < i ∧ y.toNat = 0)) ∧ e 9 = .int .i64 i ∧ e 0 = .slice A l.length c ∧ e 7 = .int .u64 (z : Int) ∧ e 8 = .int .u64 (un : Int) ∧ e 1 = .int .i64 (a : Int) ∧ e 10 = .int .u8 (y.toNat : Int) ∧ h = ⟨G, [], []⟩) ?_ ?_
   · have hbad : ((i = 9 ∧ 1 < y.toNat) ∨ (0 < i ∧ y.toNat = 0)) → ∀ (fr : List Td) (e : Env), go none Try.prog 73 v90.1 v90.2 (retQ o90 fun v h => v = .tuple #[.int .i64 (if (gvL 0 0 m).1 = 0 then (zag (gvL 0 0 m).2.1, (a : Int) + (gvL 0 0 m).2.2, 0) else (0, 0, (gvL 0 0 m).1)).1, .int .i64 (if (gvL 0 0 m).1 = 0 then (zag (gvL 0 0 m).2.1, (a : Int) + (gvL 0 0 m).2.2, 0) else (0, 0, (gvL 0 0 m).1)).2.1, .int .i64 (if (gvL 0 0 m).1 = 0 then (zag (gvL 0 0 m).2.1, (a : Int) + (gvL 0 0 m).2.2, 0) else (0, 0, (gvL 0 0 m).1)).2.2]) (Td.s ((SC.reg false c90r10).seq .ret) :: fr) e ⟨G, [], []⟩ := fun hx fr e => by
       (intros; try refine go_st ?_); refine go_r 0 0 (by decide) ?_; (refine sJ c90r10.eq_1 ?_; try with_reducible exact True.intro)
       (intros; try refine go_st ?_)
       refine go_ret (retQ_v rfl ?_); simp only [push_cast, Nat.reduceBEq]
       rw [heq, gvL_bad hx]
       rfl
     (intros; try refine go_st ?_); refine go_r 34 47 (by decide) ?_; (refine sJ c90r9.eq_1 ?_; try with_reducible exact True.intro)
     refine gd (fun k1 => ?_) (fun k1 => ?_)
     · have k1 : i = 9 := by have := of_decide_eq_true k1; omega
       have hp : decide ((0 : Int) < (i : Int)) = true := decide_eq_true (by omega)
       (refine sI ?_; try with_reducible exact True.intro)
       refine gd (fun k2 => ?_) (fun k2 => ?_)
       · have k2 := of_decide_eq_true k2
         (refine sI ?_; try with_reducible exact True.intro)
         (intros; try refine go_st ?_); refine go_c ?_; (refine sI ?_; try with_reducible exact True.intro)
         exact hbad (.inl ⟨k1, by omega⟩) _ _
       · have k2 := of_decide_eq_false k2
         (refine sJ @hp ?_; try with_reducible exact True.intro)
         (intros; try refine go_st ?_); refine go_c ?_; (refine sI ?_; try with_reducible exact True.intro)
         refine gb (fun k3 => ?_) (fun k3 => ?_)
         · exact hbad (.inr ⟨by omega, by have := of_decide_eq_true k3; omega⟩) _ _
         · have k3 := of_decide_eq_false k3
           (intros; try refine go_st ?_)
           exact go_l ⟨by omega, eE, eE, eE, eE, eE, eE, rfl⟩
     · have k1 : ¬ i = 9 := by have := of_decide_eq_false k1; omega
       (refine sI ?_; try with_reducible exact True.intro)
       refine gd (fun k2 => ?_) (fun k2 => ?_)
       · have k2 := of_decide_eq_true k2
         (refine sI ?_; try with_reducible exact True.intro)
         (intros; try refine go_st ?_); refine go_c ?_; (refine sI ?_; try with_reducible exact True.intro)
         refine gb (fun k3 => ?_) (fun k3 => ?_)
         · exact hbad (.inr ⟨by omega, by have := of_decide_eq_true k3; omega⟩) _ _
         · have k3 := of_decide_eq_false k3
           (intros; try refine go_st ?_)
           exact go_l ⟨by omega, eE, eE, eE, eE, eE, eE, rfl⟩
       · have k2 := of_decide_eq_false k2
         (refine sI ?_; try with_reducible exact True.intro)
         (intros; try refine go_st ?_); refine go_c ?_; (refine sI ?_; try with_reducible exact True.intro)
         (intros; try refine go_st ?_)
         exact go_l ⟨by omega, eE, eE, eE, eE, eE, eE, rfl⟩
   rintro e h ⟨hgood, e9, e0, e7, e8, e1, e10, rfl⟩
   refine go_keep [0, 1, 7, 8, 9, 10] ?_
   (refine sJ6 @e0 @e1 @e7 @e8 @e9 @e10 ?_; try with_reducible exact True.intro)
   obtain ⟨s1, s2, s3⟩ := step_lt hi9 hz (fun h => hgood (.inl h)) hyl
   have hr128 : binV .rem (.int .u8 (y.toNat : Int)) (.int .u8 128) = some (.int .u8 ((y.toNat % 128 : Nat) : Int)) := bin_rem .u8 y.toNat 128 (by decide)
   have hcu : IntKind.u64.wrap ((y.toNat % 128 : Nat) : Int) = ((y.toNat % 128 : Nat) : Int) := wrap64 (by omega)
   have hz128 : z < un := by rw [← hu]; exact hz
   rw [hu] at s1 s2 s3
   generalize hq : y.toNat % 128 = q at hr128 hcu s1 s2 s3
   have wm : IntKind.u64.wrap ((un : Int) * q) = ((un * q : Nat) : Int) := by
     have : (un : Int) * q = ((un * q : Nat) : Int) := by push_cast; rfl
     rw [this, wrap64 s1]
   have wa : IntKind.u64.wrap ((z : Int) + ((un * q : Nat) : Int)) = ((z + un * q : Nat) : Int) := by
     have : (z : Int) + ((un * q : Nat) : Int) = ((z + un * q : Nat) : Int) := by push_cast; rfl
     rw [this, wrap64 s2]
   generalize hz' : z + un * q = z' at wa s2 s3
   generalize hqq : un * q = qq at wm wa
   (intros; try refine go_st ?_); refine go_r 48 55 (by decide) ?_; (refine sJ7 c90r11.eq_1 @hr128 @hcu @bin_mul @bin_add @wm @wa ?_; try with_reducible exact True.intro)
   (intros; try refine go_st ?_); refine go_r 55 57 (by decide) ?_; (refine sJ2 c90r12.eq_1 @bin_mul ?_; try with_reducible exact True.intro)
   generalize hun' : IntKind.u64.wrap ((un : Int) * 128) = un'
   (intros; try refine go_st ?_); refine go_r 57 58 (by decide) ?_; (refine sJ c90r13.eq_1 ?_; try with_reducible exact True.intro)
   (intros; try refine go_st ?_); refine go_c ?_; (refine sI ?_; try with_reducible exact True.intro)
   refine gb (fun k3 => ?_) (fun k3 => ?_)
   · have k3 := of_decide_eq_true k3
     have hend := gvL_end (z := z) (xs := m.drop (i + 1)) hgood (by omega)
     rw [hu, hq, hqq, ← hqq, hz'] at hend
     have hdv : binV .quo (.int .u64 (z' : Int)) (.int .u64 2) = some (.int .u64 ((z' / 2 : Nat) : Int)) := bin_quo .u64 z' 2 (by decide) (by simp [IntKind.max, IntKind.signed, IntKind.bits]; omega) rfl
     have hrm : binV .rem (.int .u64 (z' : Int)) (.int .u64 2) = some (.int .u64 ((z' % 2 : Nat) : Int)) := bin_rem .u64 z' 2 (by decide)
     have hcz : IntKind.i64.wrap ((z' / 2 : Nat) : Int) = ((z' / 2 : Nat) : Int) := by rw [w64_id] <;> omega
     have hv1 : z' / 2 < 9223372036854775808 := by omega
     have hzag : zag z' = if z' % 2 = 0 then ((z' / 2 : Nat) : Int) else -((z' / 2 : Nat) : Int) - 1 := rfl
     have hv2 : z' % 2 < 2 := by omega
     generalize z' / 2 = v1 at hdv hcz hv1 hzag
     generalize z' % 2 = v2 at hrm hzag hv2
     have w5 : IntKind.i64.wrap (0 - (v1 : Int)) = 0 - (v1 : Int) := by rw [w64_id] <;> omega
     have w6 : IntKind.i64.wrap (0 - (v1 : Int) - 1) = zag z' ∨ v2 = 0 := by
       by_cases h : v2 = 0
       · exact .inr h
       · left
         rw [w64_id (by omega), hzag, if_neg h]
         omega
     (intros; try refine go_st ?_); refine go_r 59 62 (by decide) ?_; (refine sJ3 c90r14.eq_1 @hdv @hcz ?_; try with_reducible exact True.intro)
     (repeat (with_reducible intro _)); try refine go_seq ?_
     refine go_cut (fun e h => e 9 = .int .i64 i ∧ e 1 = .int .i64 (a : Int) ∧ e 11 = .int .i64 (zag z') ∧ h = ⟨G, [], []⟩) ?_ ?_
     · (intros; try refine go_st ?_); refine go_r 62 64 (by decide) ?_; (refine sJ2 c90r15.eq_1 @hrm ?_; try with_reducible exact True.intro)
       (intros; try refine go_st ?_); refine go_c ?_; (refine sI ?_; try with_reducible exact True.intro)
       refine gb (fun k4 => ?_) (fun k4 => ?_)
       · have k4 : ¬ v2 = 0 := by have := of_decide_eq_true k4; omega
         have w6 := w6.resolve_right k4
         (intros; try refine go_st ?_); refine go_r 65 68 (by decide) ?_; (refine sJ3 c90r16.eq_1 @w5 @w6 ?_; try with_reducible exact True.intro)
         (intros; try refine go_st ?_)
         exact go_l ⟨eE, eE, eE, rfl⟩
       · have k4 : v2 = 0 := by have := of_decide_eq_false k4; omega
         rw [if_pos k4] at hzag
         (intros; try refine go_st ?_)
         exact go_l ⟨eE, eE, (eJ @hzag), rfl⟩
     rintro e h ⟨e9, e1, e11, rfl⟩
     refine go_keep [1, 9, 11] ?_
     (refine sJ3 @e1 @e9 @e11 ?_; try with_reducible exact True.intro)
     (intros; try refine go_st ?_); refine go_r 68 73 (by decide) ?_; (refine sJ3 c90r17.eq_1 @w2 @w3 ?_; try with_reducible exact True.intro)
     (intros; try refine go_st ?_)
     refine go_ret (retQ_v rfl ?_); simp only [push_cast, Nat.reduceBEq]
     rw [heq, hend]
     simp only [if_true]
     rw [← hv4, ← hv3]
     simp [Int.add_assoc]
   · have k3 := of_decide_eq_false k3
     have hi8 : i ≤ 8 := by omega
     rw [gvL_more hgood (by omega), hu, hq, hqq, ← hqq, hz'] at heq
     have hun2 : un' = ((128 ^ (i + 1) : Nat) : Int) := by
       have := pow_8 hi8
       rw [← hun', Nat.pow_succ, hu, IntKind.wrap_u64]
       omega
     (repeat first | (with_reducible intro _) | refine go_skip ?_ | refine go_b ?_)
     (intros; try refine go_st ?_); refine go_r 14 16 (by decide) ?_; (refine sJ2 c90r18.eq_1 @hw ?_; try with_reducible exact True.intro)
     (intros; try refine go_st ?_)
     refine go_l ⟨⟨i + 1, z', ⟨by omega, by omega, s3 hi8, heq⟩, eE, eE, eE, (eJ @hun2), eE, rfl⟩, ?_⟩
     (refine sI ?_; try with_reducible exact True.intro)
     omega
theorem F105 : Fun Try.prog 105 14 v105 c105 o105 := Fun.mk' Try.func105 Try.ntmps105 (by kernel_rfl) (by kernel_rfl) s105 q105
theorem F112 : Fun Try.prog 112 21 v112 c112 o112 := Fun.mk' Try.func112 Try.ntmps112 (by kernel_rfl) (by kernel_rfl) s112 q112
theorem F103 : Fun Try.prog 103 13 v103 c103 o103 := Fun.mk' Try.func103 Try.ntmps103 (by kernel_rfl) (by kernel_rfl) s103 q103
theorem getV_ok {l : List UInt8} {a : Int} (h : (getV l a).2.2 = 0) : ∃ k : Nat, 0 ≤ a ∧ (getV l a).2.1 = ((a.toNat + k : Nat) : Int) ∧ 0 < k ∧ a.toNat + k ≤ l.length ∧ I64 (getV l a).1 := by
 unfold getV at h ⊢
 split at h
 · cases h
 rename_i h0
 rw [if_neg h0]
 split at h
 · rename_i h1
   rw [if_pos h1]
   obtain ⟨a1, a2, a3⟩ := gvL_lt _ 0 0 (by omega) (by simp) h1
   refine ⟨_, by omega, ?_, a2, ?_, zag_i a1⟩
   · dsimp only
     omega
   · have : (gvL 0 0 (l.drop a.toNat)).2.2 ≤ l.length - a.toNat := by simpa using a3
     omega
 · rename_i h1
   exact absurd h h1
def getT (l : List UInt8) (a most : Int) : ByteArray × Int × Int :=
 if (getV l a).2.2 = 0 then
   if (getV l a).1 < 0 then (⟨#[]⟩, 0, 11) else if most < (getV l a).1 then (⟨#[]⟩, 0, 2) else if (l.length : Int) - (getV l a).2.1 < (getV l a).1 then (⟨#[]⟩, 0, 10)
   else (⟨((l.take ((getV l a).2.1.toNat + (getV l a).1.toNat)).drop (getV l a).2.1.toNat).toArray⟩, (getV l a).2.1 + (getV l a).1, 0)
 else (⟨#[]⟩, 0, (getV l a).2.2)
theorem GetText_ok (l : List UInt8) (a most : Int) (v : Value) (G : Nat → Option Obj) (hl : SB G v l) :
   FnS Try.prog 104 #[v, .int .i64 a, .int .i64 most] G (.tuple #[.string (getT l a most).1, .int .i64 (getT l a most).2.1, .int .i64 (getT l a most).2.2]) := by
 obtain ⟨A, c, rfl, hc, hm, hA⟩ := id hl
 unfold maxLen at hm
 refine F104.fnS (by simp) (go_of ?_)
 unfold c104 getT
 have hk := @getV_ok l a
 (intros; try refine go_st ?_); refine go_r 0 0 (by decide) ?_; (refine sJ c104r0.eq_1 ?_; try with_reducible exact True.intro)
 (intros; try refine go_st ?_); refine go_r 10 17 (by decide) ?_; (refine sJ c104r1.eq_1 ?_; try with_reducible exact True.intro)
 refine (GetVar_ok l a _ G hl _ _).mono ?_; rintro _ _ ⟨rfl, rfl⟩; (refine sI ?_; try with_reducible exact True.intro)
 generalize getV l a = q at hk ⊢
 obtain ⟨n, next, er⟩ := q
 dsimp only at hk ⊢
 (intros; try refine go_st ?_); refine go_r 18 20 (by decide) ?_; (refine sJ c104r2.eq_1 ?_; try with_reducible exact True.intro)
 (intros; try refine go_st ?_); refine go_c ?_; (refine sI ?_; try with_reducible exact True.intro)
 refine gb (fun h1 => ?_) (fun h1 => ?_)
 · have h1 := of_decide_eq_true h1
   (intros; try refine go_st ?_); refine go_r 20 21 (by decide) ?_; (refine sJ c104r3.eq_1 ?_; try with_reducible exact True.intro)
   (intros; try refine go_st ?_)
   refine go_ret (retQ_v rfl ?_); simp only [push_cast, Nat.reduceBEq]
   rw [if_neg h1]
 have h1 : er = 0 := by simpa using h1
 obtain ⟨k, ha, hnx, hk0, hkl, hn⟩ := hk h1
 generalize hb : a.toNat + k = b at hnx hkl
 subst hnx
 rw [if_pos h1]
 (intros; try refine go_st ?_); refine go_r 22 24 (by decide) ?_; (refine sJ c104r4.eq_1 ?_; try with_reducible exact True.intro)
 (intros; try refine go_st ?_); refine go_c ?_; (refine sI ?_; try with_reducible exact True.intro)
 refine gb (fun h2 => ?_) (fun h2 => ?_)
 · have h2 := of_decide_eq_true h2
   (intros; try refine go_st ?_); refine go_r 0 0 (by decide) ?_; (refine sJ c104r5.eq_1 ?_; try with_reducible exact True.intro)
   (intros; try refine go_st ?_)
   refine go_ret (retQ_v rfl ?_); simp only [push_cast, Nat.reduceBEq]
   rw [if_pos h2]
 have h2 := of_decide_eq_false h2
 rw [if_neg h2]
 (intros; try refine go_st ?_); refine go_r 25 28 (by decide) ?_; (refine sJ c104r6.eq_1 ?_; try with_reducible exact True.intro)
 (intros; try refine go_st ?_); refine go_c ?_; (refine sI ?_; try with_reducible exact True.intro)
 refine gb (fun h3 => ?_) (fun h3 => ?_)
 · have h3 := of_decide_eq_true h3
   (intros; try refine go_st ?_); refine go_r 0 0 (by decide) ?_; (refine sJ c104r7.eq_1 ?_; try with_reducible exact True.intro)
   (intros; try refine go_st ?_)
   refine go_ret (retQ_v rfl ?_); simp only [push_cast, Nat.reduceBEq]
   rw [if_pos h3]
 have h3 := of_decide_eq_false h3
 rw [if_neg h3]
 obtain ⟨n, rfl⟩ : ∃ m : Nat, n = m := ⟨n.toNat, by omega⟩
 have w1 : IntKind.i64.wrap ((l.length : Int) - b) = (l.length : Int) - b := by rw [w64_id] <;> omega
 (intros; try refine go_st ?_); refine go_r 29 35 (by decide) ?_; (refine sJ2 c104r8.eq_1 @w1 ?_; try with_reducible exact True.intro)
 (intros; try refine go_st ?_); refine go_c ?_; (refine sI ?_; try with_reducible exact True.intro)
 refine gb (fun h4 => ?_) (fun h4 => ?_)
 · have h4 := of_decide_eq_true h4
   (intros; try refine go_st ?_); refine go_r 0 0 (by decide) ?_; (refine sJ c104r9.eq_1 ?_; try with_reducible exact True.intro)
   (intros; try refine go_st ?_)
   refine go_ret (retQ_v rfl ?_); simp only [push_cast, Nat.reduceBEq]
   rw [if_pos (by omega)]
 have h4 := of_decide_eq_false h4
 rw [if_neg (by omega)]
 have w2 : IntKind.i64.wrap ((b : Int) + n) = ((b + n : Nat) : Int) := by rw [w64_id] <;> omega
 (repeat first | (with_reducible intro _) | refine go_skip ?_ | refine go_b ?_)
 (intros; try refine go_st ?_); refine go_r 35 45 (by decide) ?_; (refine sJ2 c104r10.eq_1 @w2 ?_; try with_reducible exact True.intro)
 refine slY_v b (b + n) c hl rfl rfl rfl (by omega) fun B hB => ?_
 (refine sI ?_; try with_reducible exact True.intro)
 refine ⟨_, strAt_b hB rfl, ?_⟩
 (refine sJ @w2 ?_; try with_reducible exact True.intro)
 (intros; try refine go_st ?_)
 refine go_ret (retQ_v rfl ?_); simp only [push_cast, Nat.reduceBEq]
theorem RGetText_ok (l : List UInt8) (a most : Int) (v : Value) (G : Nat → Option Obj) (hl : SB G v l) :
   FnS Try.prog 111 #[v, .int .i64 a, .int .i64 most] G (.tuple #[.string (getT l a most).1, .int .i64 (getT l a most).2.1, .int .i64 (getT l a most).2.2]) := by
 obtain ⟨A, c, rfl, hc, hm, hA⟩ := id hl
 unfold maxLen at hm
 refine F111.fnS (by simp) (go_of ?_)
 unfold c111 getT
 have hk := @getV_ok l a
 (intros; try refine go_st ?_); refine go_r 0 0 (by decide) ?_; (refine sJ c111r0.eq_1 ?_; try with_reducible exact True.intro)
 (intros; try refine go_st ?_); refine go_r 12 19 (by decide) ?_; (refine sJ c111r1.eq_1 ?_; try with_reducible exact True.intro)
 refine (RGetVar_ok l a _ G hl _ _).mono ?_; rintro _ _ ⟨rfl, rfl⟩; (refine sI ?_; try with_reducible exact True.intro)
 generalize getV l a = q at hk ⊢
 obtain ⟨n, next, er⟩ := q
 dsimp only at hk ⊢
 (intros; try refine go_st ?_); refine go_r 19 20 (by decide) ?_; (refine sJ c111r2.eq_1 ?_; try with_reducible exact True.intro)
 (intros; try refine go_st ?_); refine go_c ?_; (refine sI ?_; try with_reducible exact True.intro)
 refine gb (fun h1 => ?_) (fun h1 => ?_)
 · have h1 := of_decide_eq_true h1
   (intros; try refine go_st ?_); refine go_r 21 22 (by decide) ?_; (refine sJ c111r3.eq_1 ?_; try with_reducible exact True.intro)
   (intros; try refine go_st ?_)
   refine go_ret (retQ_v rfl ?_); simp only [push_cast, Nat.reduceBEq]
   rw [if_neg h1]
 have h1 : er = 0 := by simpa using h1
 obtain ⟨k, ha, hnx, hk0, hkl, hn⟩ := hk h1
 generalize hb : a.toNat + k = b at hnx hkl
 subst hnx
 rw [if_pos h1]
 (repeat first | (with_reducible intro _) | refine go_skip ?_ | refine go_b ?_)
 (intros; try refine go_st ?_); refine go_r 22 23 (by decide) ?_; (refine sJ c111r4.eq_1 ?_; try with_reducible exact True.intro)
 (intros; try refine go_st ?_); refine go_c ?_; (refine sI ?_; try with_reducible exact True.intro)
 refine gb (fun h2 => ?_) (fun h2 => ?_)
 · have h2 := of_decide_eq_true h2
   (intros; try refine go_st ?_); refine go_r 0 0 (by decide) ?_; (refine sJ c111r5.eq_1 ?_; try with_reducible exact True.intro)
   (intros; try refine go_st ?_)
   refine go_ret (retQ_v rfl ?_); simp only [push_cast, Nat.reduceBEq]
   rw [if_pos h2]
 have h2 := of_decide_eq_false h2
 rw [if_neg h2]
 (repeat first | (with_reducible intro _) | refine go_skip ?_ | refine go_b ?_)
 (intros; try refine go_st ?_); refine go_r 24 26 (by decide) ?_; (refine sJ c111r6.eq_1 ?_; try with_reducible exact True.intro)
 (intros; try refine go_st ?_); refine go_c ?_; (refine sI ?_; try with_reducible exact True.intro)
 refine gb (fun h3 => ?_) (fun h3 => ?_)
 · have h3 := of_decide_eq_true h3
   (intros; try refine go_st ?_); refine go_r 0 0 (by decide) ?_; (refine sJ c111r7.eq_1 ?_; try with_reducible exact True.intro)
   (intros; try refine go_st ?_)
   refine go_ret (retQ_v rfl ?_); simp only [push_cast, Nat.reduceBEq]
   rw [if_pos h3]
 have h3 := of_decide_eq_false h3
 rw [if_neg h3]
 obtain ⟨n, rfl⟩ : ∃ m : Nat, n = m := ⟨n.toNat, by omega⟩
 have w1 : IntKind.i64.wrap ((l.length : Int) - b) = (l.length : Int) - b := by rw [w64_id] <;> omega
 (repeat first | (with_reducible intro _) | refine go_skip ?_ | refine go_b ?_)
 (intros; try refine go_st ?_); refine go_r 27 32 (by decide) ?_; (refine sJ2 c111r8.eq_1 @w1 ?_; try with_reducible exact True.intro)
 (intros; try refine go_st ?_); refine go_c ?_; (refine sI ?_; try with_reducible exact True.intro)
 refine gb (fun h4 => ?_) (fun h4 => ?_)
 · have h4 := of_decide_eq_true h4
   (intros; try refine go_st ?_); refine go_r 0 0 (by decide) ?_; (refine sJ c111r9.eq_1 ?_; try with_reducible exact True.intro)
   (intros; try refine go_st ?_)
   refine go_ret (retQ_v rfl ?_); simp only [push_cast, Nat.reduceBEq]
   rw [if_pos (by omega)]
 have h4 := of_decide_eq_false h4
 rw [if_neg (by omega)]
 have w2 : IntKind.i64.wrap ((b : Int) + n) = ((b + n : Nat) : Int) := by rw [w64_id] <;> omega
 (repeat first | (with_reducible intro _) | refine go_skip ?_ | refine go_b ?_)
 (intros; try refine go_st ?_); refine go_r 33 43 (by decide) ?_; (refine sJ2 c111r10.eq_1 @w2 ?_; try with_reducible exact True.intro)
 refine slY_v b (b + n) c hl rfl rfl rfl (by omega) fun B hB => ?_
 (refine sI ?_; try with_reducible exact True.intro)
 refine ⟨_, strAt_b hB rfl, ?_⟩
 (refine sJ @w2 ?_; try with_reducible exact True.intro)
 (intros; try refine go_st ?_)
 refine go_ret (retQ_v rfl ?_); simp only [push_cast, Nat.reduceBEq]
theorem text_ok (l : List UInt8) (a : Int) (v : Value) (G : Nat → Option Obj) (hl : SB G v l) :
   FnS Try.prog 103 #[v, .int .i64 a] G (.tuple #[.string (getT l a 64).1, .int .i64 (getT l a 64).2.1, .int .i64 (getT l a 64).2.2]) := by
 refine F103.fnS (by simp) (go_of ?_)
 unfold c103
 (intros; try refine go_st ?_); refine go_r 0 0 (by decide) ?_; (refine sJ c103r0.eq_1 ?_; try with_reducible exact True.intro)
 (intros; try refine go_st ?_); refine go_r 7 13 (by decide) ?_; (refine sJ c103r1.eq_1 ?_; try with_reducible exact True.intro)
 refine (GetText_ok l a 64 _ G hl _ _).mono ?_; rintro _ _ ⟨rfl, rfl⟩; (refine sI ?_; try with_reducible exact True.intro)
 (intros; try refine go_st ?_)
 refine go_ret (retQ_v rfl ?_); simp only [push_cast, Nat.reduceBEq]
def bes (n d : Int) : Int := if d < -1099511627776 ∨ 1099511627776 < d then -1 else n + d
theorem beside_ok (n d : Int) (hn : 0 ≤ n ∧ n ≤ 1099511627776) (G : Nat → Option Obj) : FnS Try.prog 105 #[.int .i64 n, .int .i64 d] G (.int .i64 (bes n d)) := by
 refine F105.fnS (by simp) (go_of ?_)
 unfold c105
 (intros; try refine go_st ?_); refine go_r 0 0 (by decide) ?_; (refine sJ c105r0.eq_1 ?_; try with_reducible exact True.intro)
 have hbad : (d < -1099511627776 ∨ 1099511627776 < d) → ∀ (fr : List Td) (e : Env), go none Try.prog 14 v105.1 v105.2 (retQ o105 fun v h => v = .int .i64 (bes n d)) (Td.s ((SC.reg false c105r2).seq .ret) :: fr) e ⟨G, [], []⟩ := fun hx fr e => by
   (intros; try refine go_st ?_); refine go_r 0 0 (by decide) ?_; (refine sJ c105r2.eq_1 ?_; try with_reducible exact True.intro)
   (intros; try refine go_st ?_)
   refine go_ret (retQ_v rfl ?_); simp only [push_cast, Nat.reduceBEq]
   rw [bes, if_pos hx]
 (intros; try refine go_st ?_); refine go_r 5 10 (by decide) ?_; (refine sJ c105r1.eq_1 ?_; try with_reducible exact True.intro)
 refine gd (fun h1 => ?_) (fun h1 => ?_)
 · (refine sI ?_; try with_reducible exact True.intro)
   (intros; try refine go_st ?_); refine go_c ?_; (refine sI ?_; try with_reducible exact True.intro)
   exact hbad (.inl (of_decide_eq_true h1)) _ _
 have h1 := of_decide_eq_false h1
 (refine sI ?_; try with_reducible exact True.intro)
 (intros; try refine go_st ?_); refine go_c ?_; (refine sI ?_; try with_reducible exact True.intro)
 refine gb (fun h2 => ?_) (fun h2 => ?_)
 · exact hbad (.inr (of_decide_eq_true h2)) _ _
 have h2 := of_decide_eq_false h2
 have w : IntKind.i64.wrap (n + d) = n + d := by rw [w64_id] <;> omega
 (repeat first | (with_reducible intro _) | refine go_skip ?_ | refine go_b ?_)
 (intros; try refine go_st ?_); refine go_r 11 14 (by decide) ?_; (refine sJ2 c105r3.eq_1 @w ?_; try with_reducible exact True.intro)
 (intros; try refine go_st ?_)
 refine go_ret (retQ_v rfl ?_); simp only [push_cast, Nat.reduceBEq]
 rw [bes, if_neg (by omega)]
def besR (n d : Int) : Int := if d < -1099511627776 ∨ 1099511627776 < d ∨ inO (n + d) = false then -1 else n + d
theorem Rbeside_ok (n d : Int) (hn : 0 ≤ n ∧ n ≤ 1099511627776) (G : Nat → Option Obj) : FnS Try.prog 112 #[.int .i64 n, .int .i64 d] G (.int .i64 (besR n d)) := by
 refine F112.fnS (by simp) (go_of ?_)
 unfold c112
 (intros; try refine go_st ?_); refine go_r 0 0 (by decide) ?_; (refine sJ c112r0.eq_1 ?_; try with_reducible exact True.intro)
 have hbad : (d < -1099511627776 ∨ 1099511627776 < d ∨ inO (n + d) = false) → ∀ (fr : List Td) (e : Env), go none Try.prog 21 v112.1 v112.2 (retQ o112 fun v h => v = .int .i64 (besR n d)) (Td.s ((SC.reg false c112r2).seq .ret) :: fr) e ⟨G, [], []⟩ := fun hx fr e => by
   (intros; try refine go_st ?_); refine go_r 0 0 (by decide) ?_; (refine sJ c112r2.eq_1 ?_; try with_reducible exact True.intro)
   (intros; try refine go_st ?_)
   refine go_ret (retQ_v rfl ?_); simp only [push_cast, Nat.reduceBEq]
   rw [besR, if_pos hx]
 (intros; try refine go_st ?_); refine go_r 5 17 (by decide) ?_; (refine sJ c112r1.eq_1 ?_; try with_reducible exact True.intro)
 refine gd (fun h1 => ?_) (fun h1 => ?_)
 · (refine sI ?_; try with_reducible exact True.intro)
   (intros; try refine go_st ?_); refine go_c ?_; (refine sI ?_; try with_reducible exact True.intro)
   exact hbad (.inl (of_decide_eq_true h1)) _ _
 have h1 := of_decide_eq_false h1
 (refine sI ?_; try with_reducible exact True.intro)
 refine gd (fun h2 => ?_) (fun h2 => ?_)
 · (refine sI ?_; try with_reducible exact True.intro)
   (intros; try refine go_st ?_); refine go_c ?_; (refine sI ?_; try with_reducible exact True.intro)
   exact hbad (.inr (.inl (of_decide_eq_true h2))) _ _
 have h2 := of_decide_eq_false h2
 have w : IntKind.i64.wrap (n + d) = n + d := by rw [w64_id] <;> omega
 (refine sJ @w ?_; try with_reducible exact True.intro)
 refine (In_ok (n + d) G _ _).mono ?_; rintro _ _ ⟨rfl, rfl⟩; (refine sI ?_; try with_reducible exact True.intro)
 (intros; try refine go_st ?_); refine go_c ?_; (refine sI ?_; try with_reducible exact True.intro)
 refine gb (fun h3 => ?_) (fun h3 => ?_)
 · exact hbad (.inr (.inr (by simpa using h3))) _ _
 have h3 : inO (n + d) = true := by simpa using h3
 (repeat first | (with_reducible intro _) | refine go_skip ?_ | refine go_b ?_)
 (intros; try refine go_st ?_); refine go_r 18 21 (by decide) ?_; (refine sJ2 c112r3.eq_1 @w ?_; try with_reducible exact True.intro)
 (intros; try refine go_st ?_)
 refine go_ret (retQ_v rfl ?_); simp only [push_cast, Nat.reduceBEq]
 rw [besR, if_neg (by rw [h3]; simp; omega)]
theorem F106 : Fun Try.prog 106 32 v106 c106 o106 := Fun.mk' Try.func106 Try.ntmps106 (by kernel_rfl) (by kernel_rfl) s106 q106
theorem F107 : Fun Try.prog 107 32 v107 c107 o107 := Fun.mk' Try.func107 Try.ntmps107 (by kernel_rfl) (by kernel_rfl) s107 q107
theorem F109 : Fun Try.prog 109 32 v109 c109 o109 := Fun.mk' Try.func109 Try.ntmps109 (by kernel_rfl) (by kernel_rfl) s109 q109
theorem ldN_blk {h : H} {b o : Nat} {cs : List Value} {v : Value} (hm : Item.blk b cs ∈ h.L) (hv : cs[o]? = some v) : LdN h (.pointer (some ⟨b, o, none⟩)) none v := ⟨_, rfl, .blk hm hv⟩
def nx {α : Type} (e : Int) (z : α) (x : Int) (r : α × Int × Int) : α × Int × Int := if e = 0 then r else (z, x, e)
theorem nx_0 {α : Type} {e : Int} {z : α} {x : Int} {r : α × Int × Int} (h : e = 0) : nx e z x r = r := if_pos h
theorem nx_n {α : Type} {e : Int} {z : α} {x : Int} {r : α × Int × Int} (h : ¬ e = 0) : nx e z x r = (z, x, e) := if_neg h
theorem fieldI_ok (l : List UInt8) (a e : Int) (v : Value) (b : Nat) (G : Nat → Option Obj) (hl : SB G v l) (g : Nat) (rd : List UInt8 → Int → Int × Int × Int)
   (hg : FnS Try.prog g #[v, .int .i64 a] G (.tuple #[.int .i64 (rd l a).1, .int .i64 (rd l a).2.1, .int .i64 (rd l a).2.2])) :
   FnO Try.prog 106 #[.pointer (some ⟨b, 0, none⟩), .func (.func g) #[] #[]] G [.blk b [v, .int .i64 a, .int .i64 e]] (fun _ L' r => r = .int .i64 (nx e 0 a (rd l a)).1 ∧ L' = [.blk b [v, .int .i64 (nx e 0 a (rd l a)).2.1, .int .i64 (nx e 0 a (rd l a)).2.2]]) := by
 obtain ⟨A, c, rfl, -⟩ := hl
 refine F106.fnO (by simp) (noRegs_blk noRegs_nil) (go_of ?_)
 unfold c106
 (intros; try refine go_st ?_); refine go_r 0 0 (by decide) ?_; (refine sJ c106r0.eq_1 ?_; try with_reducible exact True.intro)
 (intros; try refine go_st ?_); refine go_r 0 0 (by decide) ?_; (refine sJ c106r1.eq_1 ?_; try with_reducible exact True.intro)
 (intros; try refine go_st ?_); refine go_r 6 10 (by decide) ?_; (refine sJ c106r2.eq_1 ?_; try with_reducible exact True.intro)
 refine ⟨_, ldN_blk (.head _) rfl, ?_⟩
 (refine sI ?_; try with_reducible exact True.intro)
 (intros; try refine go_st ?_); refine go_c ?_; (refine sI ?_; try with_reducible exact True.intro)
 refine gb (fun h1 => ?_) (fun h1 => ?_)
 · have h1 := of_decide_eq_true h1
   (intros; try refine go_st ?_); refine go_w _ (List.Sublist.refl _) (by decide) ?_; (refine sJ c106r3.eq_1 ?_; try with_reducible exact True.intro)
   refine ⟨_, ldN_blk (.head _) rfl, ?_⟩
   (refine sI ?_; try with_reducible exact True.intro)
   refine ⟨_, ldN_blk (.head _) rfl, ?_⟩
   (refine sI ?_; try with_reducible exact True.intro)
   refine .inl ⟨_, _, rfl, ?_⟩
   refine (hg _ _).mono ?_; rintro _ _ ⟨rfl, rfl⟩; (refine sI ?_; try with_reducible exact True.intro)
   refine again_0 ?_
   (refine sI ?_; try with_reducible exact True.intro)
   refine stX_blk [] [] rfl (by simp) ⟨rfl, rfl⟩ ?_
   (refine sI ?_; try with_reducible exact True.intro)
   refine again_0 ?_
   (refine sI ?_; try with_reducible exact True.intro)
   refine stX_blk [] [] rfl (by simp) ⟨rfl, rfl⟩ ?_
   (refine sI ?_; try with_reducible exact True.intro)
   (intros; try refine go_st ?_)
   (intros; try refine go_st ?_); refine go_r 31 32 (by decide) ?_; (refine sJ c106r4.eq_1 ?_; try with_reducible exact True.intro)
   (intros; try refine go_st ?_)
   refine go_ret (retQ_o _ rfl (List.Sublist.refl _) (noRegs_blk noRegs_nil) ?_)
   rw [nx_0 h1]
   exact ⟨rfl, rfl⟩
 · have h1 := of_decide_eq_false h1
   (repeat first | (with_reducible intro _) | refine go_skip ?_ | refine go_b ?_)
   (intros; try refine go_st ?_); refine go_r 31 32 (by decide) ?_; (refine sJ c106r4.eq_1 ?_; try with_reducible exact True.intro)
   (intros; try refine go_st ?_)
   refine go_ret (retQ_o _ rfl (List.Sublist.refl _) (noRegs_blk noRegs_nil) ?_)
   rw [nx_n h1]
   exact ⟨rfl, rfl⟩
theorem fieldB_ok (l : List UInt8) (a e : Int) (v : Value) (b : Nat) (G : Nat → Option Obj) (hl : SB G v l) (g : Nat) (rd : List UInt8 → Int → Bool × Int × Int)
   (hg : FnS Try.prog g #[v, .int .i64 a] G (.tuple #[.bool (rd l a).1, .int .i64 (rd l a).2.1, .int .i64 (rd l a).2.2])) :
   FnO Try.prog 107 #[.pointer (some ⟨b, 0, none⟩), .func (.func g) #[] #[]] G [.blk b [v, .int .i64 a, .int .i64 e]] (fun _ L' r => r = .bool (nx e false a (rd l a)).1 ∧ L' = [.blk b [v, .int .i64 (nx e false a (rd l a)).2.1, .int .i64 (nx e false a (rd l a)).2.2]]) := by
 obtain ⟨A, c, rfl, -⟩ := hl
 refine F107.fnO (by simp) (noRegs_blk noRegs_nil) (go_of ?_)
 unfold c107
 (intros; try refine go_st ?_); refine go_r 0 0 (by decide) ?_; (refine sJ c107r0.eq_1 ?_; try with_reducible exact True.intro)
 (intros; try refine go_st ?_); refine go_r 0 0 (by decide) ?_; (refine sJ c107r1.eq_1 ?_; try with_reducible exact True.intro)
 (intros; try refine go_st ?_); refine go_r 6 10 (by decide) ?_; (refine sJ c107r2.eq_1 ?_; try with_reducible exact True.intro)
 refine ⟨_, ldN_blk (.head _) rfl, ?_⟩
 (refine sI ?_; try with_reducible exact True.intro)
 (intros; try refine go_st ?_); refine go_c ?_; (refine sI ?_; try with_reducible exact True.intro)
 refine gb (fun h1 => ?_) (fun h1 => ?_)
 · have h1 := of_decide_eq_true h1
   (intros; try refine go_st ?_); refine go_w _ (List.Sublist.refl _) (by decide) ?_; (refine sJ c107r3.eq_1 ?_; try with_reducible exact True.intro)
   refine ⟨_, ldN_blk (.head _) rfl, ?_⟩
   (refine sI ?_; try with_reducible exact True.intro)
   refine ⟨_, ldN_blk (.head _) rfl, ?_⟩
   (refine sI ?_; try with_reducible exact True.intro)
   refine .inl ⟨_, _, rfl, ?_⟩
   refine (hg _ _).mono ?_; rintro _ _ ⟨rfl, rfl⟩; (refine sI ?_; try with_reducible exact True.intro)
   refine again_0 ?_
   (refine sI ?_; try with_reducible exact True.intro)
   refine stX_blk [] [] rfl (by simp) ⟨rfl, rfl⟩ ?_
   (refine sI ?_; try with_reducible exact True.intro)
   refine again_0 ?_
   (refine sI ?_; try with_reducible exact True.intro)
   refine stX_blk [] [] rfl (by simp) ⟨rfl, rfl⟩ ?_
   (refine sI ?_; try with_reducible exact True.intro)
   (intros; try refine go_st ?_)
   (intros; try refine go_st ?_); refine go_r 31 32 (by decide) ?_; (refine sJ c107r4.eq_1 ?_; try with_reducible exact True.intro)
   (intros; try refine go_st ?_)
   refine go_ret (retQ_o _ rfl (List.Sublist.refl _) (noRegs_blk noRegs_nil) ?_)
   rw [nx_0 h1]
   exact ⟨rfl, rfl⟩
 · have h1 := of_decide_eq_false h1
   (repeat first | (with_reducible intro _) | refine go_skip ?_ | refine go_b ?_)
   (intros; try refine go_st ?_); refine go_r 31 32 (by decide) ?_; (refine sJ c107r4.eq_1 ?_; try with_reducible exact True.intro)
   (intros; try refine go_st ?_)
   refine go_ret (retQ_o _ rfl (List.Sublist.refl _) (noRegs_blk noRegs_nil) ?_)
   rw [nx_n h1]
   exact ⟨rfl, rfl⟩
theorem fieldS_ok (l : List UInt8) (a e : Int) (v : Value) (b : Nat) (G : Nat → Option Obj) (hl : SB G v l) (g : Nat) (rd : List UInt8 → Int → ByteArray × Int × Int)
   (hg : FnS Try.prog g #[v, .int .i64 a] G (.tuple #[.string (rd l a).1, .int .i64 (rd l a).2.1, .int .i64 (rd l a).2.2])) :
   FnO Try.prog 109 #[.pointer (some ⟨b, 0, none⟩), .func (.func g) #[] #[]] G [.blk b [v, .int .i64 a, .int .i64 e]] (fun _ L' r => r = .string (nx e ⟨#[]⟩ a (rd l a)).1 ∧ L' = [.blk b [v, .int .i64 (nx e ⟨#[]⟩ a (rd l a)).2.1, .int .i64 (nx e ⟨#[]⟩ a (rd l a)).2.2]]) := by
 obtain ⟨A, c, rfl, -⟩ := hl
 refine F109.fnO (by simp) (noRegs_blk noRegs_nil) (go_of ?_)
 unfold c109
 (intros; try refine go_st ?_); refine go_r 0 0 (by decide) ?_; (refine sJ c109r0.eq_1 ?_; try with_reducible exact True.intro)
 (intros; try refine go_st ?_); refine go_r 0 0 (by decide) ?_; (refine sJ c109r1.eq_1 ?_; try with_reducible exact True.intro)
 (intros; try refine go_st ?_); refine go_r 6 10 (by decide) ?_; (refine sJ c109r2.eq_1 ?_; try with_reducible exact True.intro)
 refine ⟨_, ldN_blk (.head _) rfl, ?_⟩
 (refine sI ?_; try with_reducible exact True.intro)
 (intros; try refine go_st ?_); refine go_c ?_; (refine sI ?_; try with_reducible exact True.intro)
 refine gb (fun h1 => ?_) (fun h1 => ?_)
 · have h1 := of_decide_eq_true h1
   (intros; try refine go_st ?_); refine go_w _ (List.Sublist.refl _) (by decide) ?_; (refine sJ c109r3.eq_1 ?_; try with_reducible exact True.intro)
   refine ⟨_, ldN_blk (.head _) rfl, ?_⟩
   (refine sI ?_; try with_reducible exact True.intro)
   refine ⟨_, ldN_blk (.head _) rfl, ?_⟩
   (refine sI ?_; try with_reducible exact True.intro)
   refine .inl ⟨_, _, rfl, ?_⟩
   refine (hg _ _).mono ?_; rintro _ _ ⟨rfl, rfl⟩; (refine sI ?_; try with_reducible exact True.intro)
   refine again_0 ?_
   (refine sI ?_; try with_reducible exact True.intro)
   refine stX_blk [] [] rfl (by simp) ⟨rfl, rfl⟩ ?_
   (refine sI ?_; try with_reducible exact True.intro)
   refine again_0 ?_
   (refine sI ?_; try with_reducible exact True.intro)
   refine stX_blk [] [] rfl (by simp) ⟨rfl, rfl⟩ ?_
   (refine sI ?_; try with_reducible exact True.intro)
   (intros; try refine go_st ?_)
   (intros; try refine go_st ?_); refine go_r 31 32 (by decide) ?_; (refine sJ c109r4.eq_1 ?_; try with_reducible exact True.intro)
   (intros; try refine go_st ?_)
   refine go_ret (retQ_o _ rfl (List.Sublist.refl _) (noRegs_blk noRegs_nil) ?_)
   rw [nx_0 h1]
   exact ⟨rfl, rfl⟩
 · have h1 := of_decide_eq_false h1
   (repeat first | (with_reducible intro _) | refine go_skip ?_ | refine go_b ?_)
   (intros; try refine go_st ?_); refine go_r 31 32 (by decide) ?_; (refine sJ c109r4.eq_1 ?_; try with_reducible exact True.intro)
   (intros; try refine go_st ?_)
   refine go_ret (retQ_o _ rfl (List.Sublist.refl _) (noRegs_blk noRegs_nil) ?_)
   rw [nx_n h1]
   exact ⟨rfl, rfl⟩
theorem F87 : Fun Try.prog 87 82 v87 c87 o87 := Fun.mk' Try.func87 Try.ntmps87 (by kernel_rfl) (by kernel_rfl) s87 q87
def noneR : Rec := ⟨0, ⟨#[]⟩, ⟨#[]⟩, false, 0⟩
def g1 (l : List UInt8) (a : Int) : Int × Int × Int := nx 0 0 a (getV l a)
def g2 (l : List UInt8) (a : Int) : Int × Int × Int := nx (g1 l a).2.2 0 (g1 l a).2.1 (getV l (g1 l a).2.1)
def g3 (l : List UInt8) (a : Int) : Bool × Int × Int := nx (g2 l a).2.2 false (g2 l a).2.1 (getF l (g2 l a).2.1.toNat)
def g4 (l : List UInt8) (a : Int) : ByteArray × Int × Int := nx (g3 l a).2.2 ⟨#[]⟩ (g3 l a).2.1 (getT l (g3 l a).2.1 64)
def g5 (l : List UInt8) (a : Int) : ByteArray × Int × Int := nx (g4 l a).2.2 ⟨#[]⟩ (g4 l a).2.1 (getT l (g4 l a).2.1 64)
def recR (l : List UInt8) (a base stamp : Int) : Rec := ⟨bes base (g1 l a).1, (g4 l a).1, (g5 l a).1, (g3 l a).1, bes stamp (g2 l a).1⟩
def getR (l : List UInt8) (a base stamp : Int) : Rec × Int × Int :=
 if inO base = true ∧ inO stamp = true ∧ 0 ≤ a ∧ a ≤ l.length then
   if (g5 l a).2.2 = 0 then (if chkR (recR l a base stamp) = 0 then (recR l a base stamp, (g5 l a).2.1, 0) else (noneR, 0, 1)) else (noneR, 0, (g5 l a).2.2)
 else (noneR, 0, 1)
theorem getV_nn (l : List UInt8) (a : Int) : 0 ≤ (getV l a).2.1 := by
 by_cases h : (getV l a).2.2 = 0
 · obtain ⟨k, h1, h2, -⟩ := getV_ok h
   omega
 · unfold getV at h ⊢
   split
   · simp
   · rename_i h0
     rw [if_neg h0] at h
     split
     · rename_i h1; rw [if_pos h1] at h; simp at h
     · simp
theorem g2_nn (l : List UInt8) (a : Int) : 0 ≤ (g2 l a).2.1 := by
 unfold g2 nx
 split
 · exact getV_nn _ _
 · unfold g1
   rw [nx_0 rfl]
   exact getV_nn _ _
theorem RGet_ok (l : List UInt8) (a base stamp : Int) (v : Value) (G : Nat → Option Obj) (hl : SB G v l) :
   FnE Try.prog 87 #[v, .int .i64 a, .int .i64 base, .int .i64 stamp] G (fun r => r = .tuple #[.agg (cellR (getR l a base stamp).1).toArray, .int .i64 (getR l a base stamp).2.1, .int .i64 (getR l a base stamp).2.2]) := by
 obtain ⟨A, c, rfl, hc, hm, hA⟩ := id hl
 refine F87.fnE (by simp) (go_of ?_)
 unfold c87
 have hck := fun x => Check_ok x
 unfold cellR at hck
 (intros; try refine go_st ?_); refine go_r 0 0 (by decide) ?_; (refine sJ c87r0.eq_1 ?_; try with_reducible exact True.intro)
 have hbad : ∀ (fr : List Td) (e : Env), ¬ (inO base = true ∧ inO stamp = true ∧ 0 ≤ a ∧ a ≤ l.length) → go none Try.prog 82 v87.1 v87.2 (retQ o87 fun v _ => v = .tuple #[.agg (cellR (getR l a base stamp).1).toArray, .int .i64 (getR l a base stamp).2.1, .int .i64 (getR l a base stamp).2.2]) (Td.s ((SC.reg false c87r2).seq .ret) :: fr) e ⟨G, [.reg 8 [.int .i64 0, .string ⟨#[]⟩, .string ⟨#[]⟩, .bool false, .int .i64 0]], []⟩ := fun fr e hx => by
   (intros; try refine go_st ?_); refine go_r 31 32 (by decide) ?_; (refine sJ c87r2.eq_1 ?_; try with_reducible exact True.intro)
   (intros; try refine go_st ?_)
   refine go_ret (retQ_v rfl ?_); simp only [push_cast, Nat.reduceBEq]
   rw [getR, if_neg hx]
   rfl
 (intros; try refine go_st ?_); refine go_r 13 30 (by decide) ?_; (refine sJ c87r1.eq_1 ?_; try with_reducible exact True.intro)
 refine (in_ok base G _ _).mono ?_; rintro _ _ ⟨rfl, rfl⟩; (refine sI ?_; try with_reducible exact True.intro)
 refine gd (fun h1 => ?_) (fun h1 => ?_)
 · (refine sI ?_; try with_reducible exact True.intro)
   (intros; try refine go_st ?_); refine go_c ?_; (refine sI ?_; try with_reducible exact True.intro)
   exact hbad _ _ fun h => by rw [h.1] at h1; cases h1
 (refine sI ?_; try with_reducible exact True.intro)
 refine (in_ok stamp G _ _).mono ?_; rintro _ _ ⟨rfl, rfl⟩; (refine sI ?_; try with_reducible exact True.intro)
 refine gd (fun h2 => ?_) (fun h2 => ?_)
 · (refine sI ?_; try with_reducible exact True.intro)
   (intros; try refine go_st ?_); refine go_c ?_; (refine sI ?_; try with_reducible exact True.intro)
   exact hbad _ _ fun h => by rw [h.2.1] at h2; cases h2
 (refine sI ?_; try with_reducible exact True.intro)
 refine gd (fun h3 => ?_) (fun h3 => ?_)
 · (refine sI ?_; try with_reducible exact True.intro)
   (intros; try refine go_st ?_); refine go_c ?_; (refine sI ?_; try with_reducible exact True.intro)
   exact hbad _ _ fun h => by have := of_decide_eq_true h3; omega
 (refine sI ?_; try with_reducible exact True.intro)
 (intros; try refine go_st ?_); refine go_c ?_; (refine sI ?_; try with_reducible exact True.intro)
 refine gb (fun h4 => ?_) (fun h4 => ?_)
 · exact hbad _ _ fun h => by have := of_decide_eq_true h4; omega
 clear hbad
 have h1 : inO base = true := by simpa using h1
 have h2 : inO stamp = true := by simpa using h2
 have h3 := of_decide_eq_false h3
 have h4 := of_decide_eq_false h4
 have hb : 0 ≤ base ∧ base ≤ 1099511627776 := by simpa [inO] using h1
 have hs : 0 ≤ stamp ∧ stamp ≤ 1099511627776 := by simpa [inO] using h2
 rw [show getR l a base stamp = (if (g5 l a).2.2 = 0 then (if chkR (recR l a base stamp) = 0 then (recR l a base stamp, (g5 l a).2.1, 0) else (noneR, 0, 1)) else (noneR, 0, (g5 l a).2.2)) from if_pos ⟨h1, h2, by omega, by omega⟩]
 (repeat first | (with_reducible intro _) | refine go_skip ?_ | refine go_b ?_)
 (intros; try refine go_st ?_); refine go_r 32 36 (by decide) ?_; (refine sJ c87r3.eq_1 ?_; try with_reducible exact True.intro)
 intro b hb0
 (refine sI ?_; try with_reducible exact True.intro)
 (intros; try refine go_st ?_); refine go_r 0 0 (by decide) ?_; (refine sJ c87r4.eq_1 ?_; try with_reducible exact True.intro)
 (intros; try refine go_st ?_); refine go_r 36 40 (by decide) ?_; (refine sJ c87r5.eq_1 ?_; try with_reducible exact True.intro)
 refine (fieldI_ok l a 0 _ b G hl 86 getV (GetVar_ok l a _ G hl) _ []).mono ?_
 rintro r h' ⟨G1, L', rfl, hg1, rfl, rfl⟩
 rw [show nx 0 0 a (getV l a) = g1 l a from rfl]
 (refine sI ?_; try with_reducible exact True.intro)
 refine (beside_ok base _ hb G1 _ _).mono ?_; rintro _ _ ⟨rfl, rfl⟩; (refine sI ?_; try with_reducible exact True.intro)
 (intros; try refine go_st ?_); refine go_r 41 45 (by decide) ?_; (refine sJ c87r6.eq_1 ?_; try with_reducible exact True.intro)
 have hl1 := SB.le hl hg1
 refine (fieldI_ok l (g1 l a).2.1 (g1 l a).2.2 _ b G1 hl1 86 getV (GetVar_ok l _ _ G1 hl1) _ []).mono ?_
 rintro r h' ⟨G2, L', rfl, hg2, rfl, rfl⟩
 rw [show nx (g1 l a).2.2 0 (g1 l a).2.1 (getV l (g1 l a).2.1) = g2 l a from rfl]
 (refine sI ?_; try with_reducible exact True.intro)
 refine (beside_ok stamp _ hs G2 _ _).mono ?_; rintro _ _ ⟨rfl, rfl⟩; (refine sI ?_; try with_reducible exact True.intro)
 (intros; try refine go_st ?_); refine go_r 46 48 (by decide) ?_; (refine sJ c87r7.eq_1 ?_; try with_reducible exact True.intro)
 have hl2 := SB.le hl1 hg2
 have hfl := flag_ok l (g2 l a).2.1.toNat _ G2 hl2
 rw [Int.toNat_of_nonneg (g2_nn l a)] at hfl
 refine (fieldB_ok l (g2 l a).2.1 (g2 l a).2.2 _ b G2 hl2 108 (fun l a => getF l a.toNat) hfl _ []).mono ?_
 rintro r h' ⟨G3, L', rfl, hg3, rfl, rfl⟩
 rw [show nx (g2 l a).2.2 false (g2 l a).2.1 (getF l (g2 l a).2.1.toNat) = g3 l a from rfl]
 have hl3 := SB.le hl2 hg3
 (refine sI ?_; try with_reducible exact True.intro)
 (intros; try refine go_st ?_); refine go_r 49 55 (by decide) ?_; (refine sJ c87r8.eq_1 ?_; try with_reducible exact True.intro)
 refine (fieldS_ok l (g3 l a).2.1 (g3 l a).2.2 _ b G3 hl3 103 (fun l a => getT l a 64) (text_ok l _ _ G3 hl3) _ []).mono ?_
 rintro r h' ⟨G4, L', rfl, hg4, rfl, rfl⟩
 rw [show nx (g3 l a).2.2 ⟨#[]⟩ (g3 l a).2.1 (getT l (g3 l a).2.1 64) = g4 l a from rfl]
 have hl4 := SB.le hl3 hg4
 (refine sI ?_; try with_reducible exact True.intro)
 refine (fieldS_ok l (g4 l a).2.1 (g4 l a).2.2 _ b G4 hl4 103 (fun l a => getT l a 64) (text_ok l _ _ G4 hl4) _ []).mono ?_
 rintro r h' ⟨G5, L', rfl, hg5, rfl, rfl⟩
 rw [show nx (g4 l a).2.2 ⟨#[]⟩ (g4 l a).2.1 (getT l (g4 l a).2.1 64) = g5 l a from rfl]
 (refine sI ?_; try with_reducible exact True.intro)
 intro _
 have hrr : recR l a base stamp = ⟨bes base (g1 l a).1, (g4 l a).1, (g5 l a).1, (g3 l a).1, bes stamp (g2 l a).1⟩ := rfl
 generalize bes base (g1 l a).1 = q0 at hrr ⊢
 generalize (g4 l a).1 = q1 at hrr ⊢
 generalize (g5 l a).1 = q2 at hrr ⊢
 generalize (g3 l a).1 = q3 at hrr ⊢
 generalize bes stamp (g2 l a).1 = q4 at hrr ⊢
 generalize (g5 l a).2.1 = x5
 generalize (g5 l a).2.2 = e5
 generalize recR l a base stamp = R at hrr ⊢
 have hckR := hck R
 subst hrr
 dsimp only at hckR
 (repeat (with_reducible intro _)); try refine go_seq ?_
 refine go_cut (fun e h => e 11 = .pointer (some ⟨b, 0, none⟩) ∧ h = ⟨G5, [.blk b [.slice A l.length c, .int .i64 x5, .int .i64 (if e5 = 0 then chkR ⟨q0, q1, q2, q3, q4⟩ else e5)], .reg 8 [.int .i64 q0, .string q1, .string q2, .bool q3, .int .i64 q4]], []⟩) ?_ ?_
 · (intros; try refine go_st ?_); refine go_r 57 61 (by decide) ?_; (refine sJ c87r9.eq_1 ?_; try with_reducible exact True.intro)
   refine ⟨_, ldN_blk (.head _) rfl, ?_⟩
   (refine sI ?_; try with_reducible exact True.intro)
   (intros; try refine go_st ?_); refine go_c ?_; (refine sI ?_; try with_reducible exact True.intro)
   refine gb (fun k1 => ?_) (fun k1 => ?_)
   · have k1 := of_decide_eq_true k1
     (intros; try refine go_st ?_); refine go_r 62 67 (by decide) ?_; (refine sJ c87r10.eq_1 ?_; try with_reducible exact True.intro)
     refine (hckR G5 _ _).mono ?_; rintro _ _ ⟨rfl, rfl⟩; (refine sI ?_; try with_reducible exact True.intro)
     refine stX_blk [] [_] rfl (by simp) ⟨rfl, rfl⟩ ?_
     (refine sI ?_; try with_reducible exact True.intro)
     (intros; try refine go_st ?_)
     exact go_l ⟨eE, by rw [if_pos k1]⟩
   · have k1 := of_decide_eq_false k1
     (intros; try refine go_st ?_)
     exact go_l ⟨eE, by rw [if_neg k1]⟩
 rintro e h ⟨e11, rfl⟩
 refine go_keep [11] ?_
 (refine sJ @e11 ?_; try with_reducible exact True.intro)
 generalize hce : chkR ⟨q0, q1, q2, q3, q4⟩ = ce
 have hck01 : ce = 0 ∨ ce = 1 := by
   rw [← hce]
   unfold chkR
   split
   · exact .inl rfl
   · exact .inr rfl
 generalize he' : (if e5 = 0 then ce else e5) = e'
 (intros; try refine go_st ?_); refine go_r 67 71 (by decide) ?_; (refine sJ c87r11.eq_1 ?_; try with_reducible exact True.intro)
 refine ⟨_, ldN_blk (.head _) rfl, ?_⟩
 (refine sI ?_; try with_reducible exact True.intro)
 (intros; try refine go_st ?_); refine go_c ?_; (refine sI ?_; try with_reducible exact True.intro)
 refine gb (fun k1 => ?_) (fun k1 => ?_)
 · have k1 := of_decide_eq_true k1
   (intros; try refine go_st ?_); refine go_w _ (.cons_cons _ (.cons _ (List.Sublist.refl _))) (by decide) ?_; (refine sJ c87r12.eq_1 ?_; try with_reducible exact True.intro)
   refine ⟨_, ldN_blk (.head _) rfl, ?_⟩
   (refine sI ?_; try with_reducible exact True.intro)
   refine ⟨grow_L (fun _ _ h => h) (.cons_cons _ (.cons _ (List.Sublist.refl _))), ?_⟩
   (refine sI ?_; try with_reducible exact True.intro)
   (intros; try refine go_st ?_)
   refine go_ret (retQ_v rfl ?_); simp only [push_cast, Nat.reduceBEq]
   by_cases h5 : e5 = 0
   · rw [if_pos h5] at he'
     subst he'
     rw [if_pos h5, if_neg k1, hck01.resolve_left k1]
     rfl
   · rw [if_neg h5] at he'
     subst he'
     rw [if_neg h5]
     rfl
 · have k1 : e' = 0 := by simpa using k1
   (repeat first | (with_reducible intro _) | refine go_skip ?_ | refine go_b ?_)
   (intros; try refine go_st ?_); refine go_w _ (List.Sublist.refl _) (by decide) ?_; (refine sJ c87r13.eq_1 ?_; try with_reducible exact True.intro)
   refine ⟨_, ldN_blk (.head _) rfl, ?_⟩
   (refine sI ?_; try with_reducible exact True.intro)
   (intros; try refine go_st ?_)
   refine go_ret (retQ_v rfl ?_); simp only [push_cast, Nat.reduceBEq]
   by_cases h5 : e5 = 0
   · rw [if_pos h5] at he'
     rw [if_pos h5, if_pos (by rw [he']; exact k1)]
     rfl
   · rw [if_neg h5] at he'
     rw [he'] at h5
     exact absurd k1 h5
theorem F91 : Fun Try.prog 91 121 v91 c91 o91 := Fun.mk' Try.func91 Try.ntmps91 (by kernel_rfl) (by kernel_rfl) s91 q91
theorem g1_eq (l : List UInt8) (a : Int) : g1 l a = getV l a := nx_0 rfl
theorem getR_if {l : List UInt8} {a base stamp : Int} (h : inO base = true ∧ inO stamp = true ∧ 0 ≤ a ∧ a ≤ l.length) : getR l a base stamp = (if (g5 l a).2.2 = 0 then (if chkR (recR l a base stamp) = 0 then (recR l a base stamp, (g5 l a).2.1, 0) else (noneR, 0, 1)) else (noneR, 0, (g5 l a).2.2)) := if_pos h
theorem getR_5 {l : List UInt8} {a base stamp : Int} (h : inO base = true ∧ inO stamp = true ∧ 0 ≤ a ∧ a ≤ l.length) (h5 : ¬ (g5 l a).2.2 = 0) : getR l a base stamp = (noneR, 0, (g5 l a).2.2) := by rw [getR_if h, if_neg h5]
theorem getR_4 {l : List UInt8} {a base stamp : Int} (h : inO base = true ∧ inO stamp = true ∧ 0 ≤ a ∧ a ≤ l.length) (h4 : ¬ (g4 l a).2.2 = 0) : getR l a base stamp = (noneR, 0, (g4 l a).2.2) := by
 have h5 : (g5 l a).2.2 = (g4 l a).2.2 := by rw [g5, nx_n h4]
 rw [getR_5 h (by rw [h5]; exact h4), h5]
theorem getR_3 {l : List UInt8} {a base stamp : Int} (h : inO base = true ∧ inO stamp = true ∧ 0 ≤ a ∧ a ≤ l.length) (h3 : ¬ (g3 l a).2.2 = 0) : getR l a base stamp = (noneR, 0, (g3 l a).2.2) := by
 have h4 : (g4 l a).2.2 = (g3 l a).2.2 := by rw [g4, nx_n h3]
 rw [getR_4 h (by rw [h4]; exact h3), h4]
theorem getR_2 {l : List UInt8} {a base stamp : Int} (h : inO base = true ∧ inO stamp = true ∧ 0 ≤ a ∧ a ≤ l.length) (h2 : ¬ (g2 l a).2.2 = 0) : getR l a base stamp = (noneR, 0, (g2 l a).2.2) := by
 have h3 : (g3 l a).2.2 = (g2 l a).2.2 := by rw [g3, nx_n h2]
 rw [getR_3 h (by rw [h3]; exact h2), h3]
theorem getR_1 {l : List UInt8} {a base stamp : Int} (h : inO base = true ∧ inO stamp = true ∧ 0 ≤ a ∧ a ≤ l.length) (h1 : ¬ (g1 l a).2.2 = 0) : getR l a base stamp = (noneR, 0, (g1 l a).2.2) := by
 have h2 : (g2 l a).2.2 = (g1 l a).2.2 := by rw [g2, nx_n h1]
 rw [getR_2 h (by rw [h2]; exact h1), h2]
def recRR (l : List UInt8) (a base stamp : Int) : Rec := ⟨besR base (g1 l a).1, (g4 l a).1, (g5 l a).1, (g3 l a).1, besR stamp (g2 l a).1⟩
theorem bes_R (n d : Int) : besR n d = bes n d ∨ (inO (besR n d) = false ∧ inO (bes n d) = false) := by
 unfold besR bes
 by_cases h : d < -1099511627776 ∨ 1099511627776 < d
 · left
   rw [if_pos h, if_pos (by omega)]
 · rw [if_neg h]
   by_cases h2 : inO (n + d) = false
   · right
     rw [if_pos (.inr (.inr h2))]
     exact ⟨rfl, h2⟩
   · left
     rw [if_neg (fun hc => by rcases hc with hc | hc | hc; omega; omega; exact h2 hc)]
theorem chk_RR (l : List UInt8) (a base stamp : Int) : (recRR l a base stamp = recR l a base stamp) ∨ (chkR (recRR l a base stamp) = 1 ∧ chkR (recR l a base stamp) = 1) := by
 rcases bes_R base (g1 l a).1 with h1 | ⟨h1, h2⟩
 · rcases bes_R stamp (g2 l a).1 with h3 | ⟨h3, h4⟩
   · left
     rw [recRR, recR, h1, h3]
   · right
     exact ⟨chkR_1 (.inr (.inl h3)), chkR_1 (.inr (.inl h4))⟩
 · right
   exact ⟨chkR_1 (.inl h1), chkR_1 (.inl h2)⟩
theorem ldN_all {h : H} {b n : Nat} {cs : List Value} (hm : Item.blk b cs ∈ h.L) (hn : cs.length = n) : LdN h (.pointer (some ⟨b, 0, none⟩)) (some n) (.agg cs.toArray) :=
 ⟨_, cs, rfl, rfl, hn, fun j u hu => by rw [add_mk]; exact .blk hm hu⟩
theorem RRGet_ok (l : List UInt8) (a base stamp : Int) (v : Value) (G : Nat → Option Obj) (hl : SB G v l) :
   FnE Try.prog 91 #[v, .int .i64 a, .int .i64 base, .int .i64 stamp] G (fun r => r = .tuple #[.agg (cellR (getR l a base stamp).1).toArray, .int .i64 (getR l a base stamp).2.1, .int .i64 (getR l a base stamp).2.2]) := by
 obtain ⟨A, c, rfl, hc, hm, hA⟩ := id hl
 unfold maxLen at hm
 refine F91.fnE (by simp) (go_of ?_)
 unfold c91
 have hck := fun x => RCheck_ok x
 unfold cellR at hck
 (intros; try refine go_st ?_); refine go_r 0 0 (by decide) ?_; (refine sJ c91r0.eq_1 ?_; try with_reducible exact True.intro)
 (intros; try refine go_st ?_); refine go_r 25 26 (by decide) ?_; (refine sJ c91r1.eq_1 ?_; try with_reducible exact True.intro)
 have hb3 : ∀ (fr : List Td) (e : Env), getR l a base stamp = (noneR, 0, 1) → go none Try.prog 121 v91.1 v91.2 (retQ o91 fun v _ => v = .tuple #[.agg (cellR (getR l a base stamp).1).toArray, .int .i64 (getR l a base stamp).2.1, .int .i64 (getR l a base stamp).2.2]) (Td.s ((SC.reg false c91r3).seq .ret) :: fr) e ⟨G, [.reg 11 [.int .i64 0, .string ⟨#[]⟩, .string ⟨#[]⟩, .bool false, .int .i64 0], .reg 8 [.int .i64 0, .string ⟨#[]⟩, .string ⟨#[]⟩, .bool false, .int .i64 0]], []⟩ := by
   intro fr e hx
   (intros; try refine go_st ?_); refine go_r 44 45 (by decide) ?_; (refine sJ c91r3.eq_1 ?_; try with_reducible exact True.intro)
   (intros; try refine go_st ?_)
   refine go_ret (retQ_v rfl ?_); simp only [push_cast, Nat.reduceBEq]
   rw [hx]
   rfl
 have hng : ¬ (inO base = true ∧ inO stamp = true ∧ 0 ≤ a ∧ a ≤ l.length) → getR l a base stamp = (noneR, 0, 1) := fun h => if_neg h
 (intros; try refine go_st ?_); refine go_r 26 43 (by decide) ?_; (refine sJ c91r2.eq_1 ?_; try with_reducible exact True.intro)
 refine (In_ok base G _ _).mono ?_; rintro _ _ ⟨rfl, rfl⟩; (refine sI ?_; try with_reducible exact True.intro)
 refine gd (fun h1 => ?_) (fun h1 => ?_)
 · (refine sI ?_; try with_reducible exact True.intro)
   (intros; try refine go_st ?_); refine go_c ?_; (refine sI ?_; try with_reducible exact True.intro)
   exact hb3 _ _ (hng fun h => by rw [h.1] at h1; cases h1)
 (refine sI ?_; try with_reducible exact True.intro)
 refine (In_ok stamp G _ _).mono ?_; rintro _ _ ⟨rfl, rfl⟩; (refine sI ?_; try with_reducible exact True.intro)
 refine gd (fun h2 => ?_) (fun h2 => ?_)
 · (refine sI ?_; try with_reducible exact True.intro)
   (intros; try refine go_st ?_); refine go_c ?_; (refine sI ?_; try with_reducible exact True.intro)
   exact hb3 _ _ (hng fun h => by rw [h.2.1] at h2; cases h2)
 (refine sI ?_; try with_reducible exact True.intro)
 refine gd (fun h3 => ?_) (fun h3 => ?_)
 · (refine sI ?_; try with_reducible exact True.intro)
   (intros; try refine go_st ?_); refine go_c ?_; (refine sI ?_; try with_reducible exact True.intro)
   exact hb3 _ _ (hng fun h => by have := of_decide_eq_true h3; omega)
 (refine sI ?_; try with_reducible exact True.intro)
 (intros; try refine go_st ?_); refine go_c ?_; (refine sI ?_; try with_reducible exact True.intro)
 refine gb (fun h4 => ?_) (fun h4 => ?_)
 · exact hb3 _ _ (hng fun h => by have := of_decide_eq_true h4; omega)
 have h1 : inO base = true := by simpa using h1
 have h2 : inO stamp = true := by simpa using h2
 have h3 := of_decide_eq_false h3
 have h4 := of_decide_eq_false h4
 have hb : 0 ≤ base ∧ base ≤ 1099511627776 := by simpa [inO] using h1
 have hs : 0 ≤ stamp ∧ stamp ≤ 1099511627776 := by simpa [inO] using h2
 have hin : inO base = true ∧ inO stamp = true ∧ 0 ≤ a ∧ a ≤ l.length := ⟨h1, h2, by omega, by omega⟩
 clear hb3 hng
 -- the first number
 (repeat first | (with_reducible intro _) | refine go_skip ?_ | refine go_b ?_)
 (intros; try refine go_st ?_); refine go_r 45 52 (by decide) ?_; (refine sJ c91r4.eq_1 ?_; try with_reducible exact True.intro)
 refine (RGetVar_ok l a _ G hl _ _).mono ?_; rintro _ _ ⟨rfl, rfl⟩; (refine sI ?_; try with_reducible exact True.intro)
 rw [← g1_eq]
 (intros; try refine go_st ?_); refine go_r 52 53 (by decide) ?_; (refine sJ c91r5.eq_1 ?_; try with_reducible exact True.intro)
 (intros; try refine go_st ?_); refine go_c ?_; (refine sI ?_; try with_reducible exact True.intro)
 refine gb (fun k1 => ?_) (fun k1 => ?_)
 · have k1 := of_decide_eq_true k1
   (intros; try refine go_st ?_); refine go_r 54 56 (by decide) ?_; (refine sJ c91r6.eq_1 ?_; try with_reducible exact True.intro)
   (intros; try refine go_st ?_)
   refine go_ret (retQ_v rfl ?_); simp only [push_cast, Nat.reduceBEq]
   rw [getR_1 hin k1]
   rfl
 have k1 : (g1 l a).2.2 = 0 := by simpa using k1
 have e2 : g2 l a = getV l (g1 l a).2.1 := nx_0 k1
 -- the second one
 (repeat first | (with_reducible intro _) | refine go_skip ?_ | refine go_b ?_)
 (intros; try refine go_st ?_); refine go_r 56 63 (by decide) ?_; (refine sJ c91r7.eq_1 ?_; try with_reducible exact True.intro)
 refine (RGetVar_ok l _ _ G hl _ _).mono ?_; rintro _ _ ⟨rfl, rfl⟩; (refine sI ?_; try with_reducible exact True.intro)
 rw [← e2]
 (intros; try refine go_st ?_); refine go_r 63 64 (by decide) ?_; (refine sJ c91r8.eq_1 ?_; try with_reducible exact True.intro)
 (intros; try refine go_st ?_); refine go_c ?_; (refine sI ?_; try with_reducible exact True.intro)
 refine gb (fun k2 => ?_) (fun k2 => ?_)
 · have k2 := of_decide_eq_true k2
   (intros; try refine go_st ?_); refine go_r 65 67 (by decide) ?_; (refine sJ c91r9.eq_1 ?_; try with_reducible exact True.intro)
   (intros; try refine go_st ?_)
   refine go_ret (retQ_v rfl ?_); simp only [push_cast, Nat.reduceBEq]
   rw [getR_2 hin k2]
   rfl
 have k2 : (g2 l a).2.2 = 0 := by simpa using k2
 have e3 : g3 l a = getF l (g2 l a).2.1.toNat := nx_0 k2
 have hj0 := g2_nn l a
 generalize hj : (g2 l a).2.1 = j at e3 hj0 ⊢
 obtain ⟨j, rfl⟩ : ∃ n : Nat, j = n := ⟨j.toNat, by omega⟩
 rw [Int.toNat_natCast] at e3
 -- the byte
 (repeat first | (with_reducible intro _) | refine go_skip ?_ | refine go_b ?_)
 (intros; try refine go_st ?_); refine go_r 67 70 (by decide) ?_; (refine sJ c91r10.eq_1 ?_; try with_reducible exact True.intro)
 (intros; try refine go_st ?_); refine go_c ?_; (refine sI ?_; try with_reducible exact True.intro)
 refine gb (fun k3 => ?_) (fun k3 => ?_)
 · have k3 := of_decide_eq_true k3
   have e3' : g3 l a = (false, 0, 10) := by rw [e3, getF, List.getElem?_eq_none (by omega)]
   (intros; try refine go_st ?_); refine go_r 71 72 (by decide) ?_; (refine sJ c91r11.eq_1 ?_; try with_reducible exact True.intro)
   (intros; try refine go_st ?_)
   refine go_ret (retQ_v rfl ?_); simp only [push_cast, Nat.reduceBEq]
   rw [getR_3 hin (by rw [e3']; decide), e3']
   rfl
 have k3 := of_decide_eq_false k3
 obtain ⟨y, hy⟩ : ∃ y, l[j]? = some y := ⟨l[j]'(by omega), List.getElem?_eq_getElem _⟩
 rw [getF, hy] at e3
 dsimp only at e3
 (repeat first | (with_reducible intro _) | refine go_skip ?_ | refine go_b ?_)
 (intros; try refine go_st ?_); refine go_r 72 76 (by decide) ?_; (refine sJ c91r12.eq_1 ?_; try with_reducible exact True.intro)
 refine hA.x_l1 hy rfl rfl ?_
 rintro a1 ha1 u hu
 cases hu
 (refine sI ?_; try with_reducible exact True.intro)
 (intros; try refine go_st ?_); refine go_c ?_; (refine sI ?_; try with_reducible exact True.intro)
 refine gb (fun k4 => ?_) (fun k4 => ?_)
 · have k4 := of_decide_eq_true k4
   rw [if_pos (by omega)] at e3
   (intros; try refine go_st ?_); refine go_r 77 78 (by decide) ?_; (refine sJ c91r13.eq_1 ?_; try with_reducible exact True.intro)
   (intros; try refine go_st ?_)
   refine go_ret (retQ_v rfl ?_); simp only [push_cast, Nat.reduceBEq]
   rw [getR_3 hin (by rw [e3]; decide), e3]
   rfl
 have k4 := of_decide_eq_false k4
 rw [if_neg (by omega)] at e3
 have hw := inc_i j l.length (by omega) (by unfold maxLen; omega)
 have e4 : g4 l a = getT l ((j : Int) + 1) 64 := by rw [g4, nx_0 (by rw [e3]), e3]
 -- the texts
 (repeat first | (with_reducible intro _) | refine go_skip ?_ | refine go_b ?_)
 (intros; try refine go_st ?_); refine go_r 78 86 (by decide) ?_; (refine sJ2 c91r14.eq_1 @hw ?_; try with_reducible exact True.intro)
 refine (RGetText_ok l _ 64 _ G hl _ _).mono ?_; rintro _ _ ⟨rfl, rfl⟩; (refine sI ?_; try with_reducible exact True.intro)
 rw [← e4]
 (intros; try refine go_st ?_); refine go_r 86 87 (by decide) ?_; (refine sJ c91r15.eq_1 ?_; try with_reducible exact True.intro)
 (intros; try refine go_st ?_); refine go_c ?_; (refine sI ?_; try with_reducible exact True.intro)
 refine gb (fun k5 => ?_) (fun k5 => ?_)
 · have k5 := of_decide_eq_true k5
   (intros; try refine go_st ?_); refine go_r 88 90 (by decide) ?_; (refine sJ c91r16.eq_1 ?_; try with_reducible exact True.intro)
   (intros; try refine go_st ?_)
   refine go_ret (retQ_v rfl ?_); simp only [push_cast, Nat.reduceBEq]
   rw [getR_4 hin k5]
   rfl
 have k5 : (g4 l a).2.2 = 0 := by simpa using k5
 have e5 : g5 l a = getT l (g4 l a).2.1 64 := nx_0 k5
 (repeat first | (with_reducible intro _) | refine go_skip ?_ | refine go_b ?_)
 (intros; try refine go_st ?_); refine go_r 90 97 (by decide) ?_; (refine sJ c91r17.eq_1 ?_; try with_reducible exact True.intro)
 refine (RGetText_ok l _ 64 _ G hl _ _).mono ?_; rintro _ _ ⟨rfl, rfl⟩; (refine sI ?_; try with_reducible exact True.intro)
 rw [← e5]
 (intros; try refine go_st ?_); refine go_r 97 98 (by decide) ?_; (refine sJ c91r18.eq_1 ?_; try with_reducible exact True.intro)
 (intros; try refine go_st ?_); refine go_c ?_; (refine sI ?_; try with_reducible exact True.intro)
 refine gb (fun k6 => ?_) (fun k6 => ?_)
 · have k6 := of_decide_eq_true k6
   (intros; try refine go_st ?_); refine go_r 99 101 (by decide) ?_; (refine sJ c91r19.eq_1 ?_; try with_reducible exact True.intro)
   (intros; try refine go_st ?_)
   refine go_ret (retQ_v rfl ?_); simp only [push_cast, Nat.reduceBEq]
   rw [getR_5 hin k6]
   rfl
 have k6 : (g5 l a).2.2 = 0 := by simpa using k6
 rw [getR_if hin, if_pos k6]
 have hrr : recRR l a base stamp = ⟨besR base (g1 l a).1, (g4 l a).1, (g5 l a).1, decide ((y.toNat : Int) = 1), besR stamp (g2 l a).1⟩ := by
   rw [recRR, e3]
   congr 1
   simp
   omega
 have hchk := chk_RR l a base stamp
 generalize (g4 l a).1 = q1 at hrr ⊢
 generalize (g5 l a).1 = q2 at hrr ⊢
 have hb1 := Rbeside_ok base (g1 l a).1 hb G
 have hb2 := Rbeside_ok stamp (g2 l a).1 hs G
 generalize besR base (g1 l a).1 = q0 at hrr hb1
 generalize besR stamp (g2 l a).1 = q4 at hrr hb2
 generalize hq3 : decide ((y.toNat : Int) = 1) = q3 at hrr
 have hckR := hck (recRR l a base stamp)
 generalize recRR l a base stamp = RX at hrr hckR hchk
 subst hrr
 dsimp only at hckR
 (repeat first | (with_reducible intro _) | refine go_skip ?_ | refine go_b ?_)
 (repeat (with_reducible intro _)); try refine go_seq ?_
 refine go_cut (fun e h => ∃ bk, e 24 = .pointer (some ⟨bk, 0, none⟩) ∧ e 22 = .int .i64 (g5 l a).2.1 ∧ h = ⟨G, [.blk bk [.int .i64 q0, .string q1, .string q2, .bool q3, .int .i64 q4], .reg 11 [.int .i64 0, .string ⟨#[]⟩, .string ⟨#[]⟩, .bool false, .int .i64 0], .reg 8 [.int .i64 0, .string ⟨#[]⟩, .string ⟨#[]⟩, .bool false, .int .i64 0]], []⟩) ?_ ?_
 · (intros; try refine go_st ?_); refine go_z _ (List.Sublist.refl _) (by decide) ?_; (refine sJ c91r20.eq_1 ?_; try with_reducible exact True.intro)
   refine hA.y_l1 hy rfl rfl ?_
   rintro a1 ha1 u hu
   cases hu
   (refine sJ @hq3 ?_; try with_reducible exact True.intro)
   refine ⟨?_, ?_⟩
   · refine (hb1 _ _).mono ?_; rintro _ _ ⟨rfl, rfl⟩; (refine sI ?_; try with_reducible exact True.intro)
     refine ⟨?_, ?_⟩
     · refine (hb2 _ _).mono ?_; rintro _ _ ⟨rfl, rfl⟩; (refine sI ?_; try with_reducible exact True.intro)
       intro bk hbk
       refine ⟨grow_L (fun _ _ h => h) (.cons _ (List.Sublist.refl _)), ?_⟩
       (refine sI ?_; try with_reducible exact True.intro)
       refine stX_blk [] [_, _] rfl (by simp) ⟨rfl, rfl⟩ ?_
       (refine sI ?_; try with_reducible exact True.intro)
       refine ⟨grow_L (fun _ _ h => h) (.cons _ (List.Sublist.refl _)), ?_⟩
       (refine sI ?_; try with_reducible exact True.intro)
       exact go_l ⟨bk, eE, eE, rfl⟩
     · intro bk hbk
       refine ⟨grow_L (fun _ _ h => h) (.cons _ (List.Sublist.refl _)), ?_⟩
       (refine sI ?_; try with_reducible exact True.intro)
       refine (hb2 _ _).mono ?_; rintro _ _ ⟨rfl, rfl⟩; (refine sI ?_; try with_reducible exact True.intro)
       refine ⟨grow_L (fun _ _ h => h) (.cons _ (List.Sublist.refl _)), ?_⟩
       (refine sI ?_; try with_reducible exact True.intro)
       refine stX_blk [] [_, _] rfl (by simp) ⟨rfl, rfl⟩ ?_
       (refine sI ?_; try with_reducible exact True.intro)
       refine ⟨grow_L (fun _ _ h => h) (.cons _ (List.Sublist.refl _)), ?_⟩
       (refine sI ?_; try with_reducible exact True.intro)
       exact go_l ⟨bk, eE, eE, rfl⟩
   · intro bk hbk
     refine ⟨grow_L (fun _ _ h => h) (.cons _ (List.Sublist.refl _)), ?_⟩
     (refine sI ?_; try with_reducible exact True.intro)
     refine (hb1 _ _).mono ?_; rintro _ _ ⟨rfl, rfl⟩; (refine sI ?_; try with_reducible exact True.intro)
     refine ⟨grow_L (fun _ _ h => h) (.cons _ (List.Sublist.refl _)), ?_⟩
     (refine sI ?_; try with_reducible exact True.intro)
     refine (hb2 _ _).mono ?_; rintro _ _ ⟨rfl, rfl⟩; (refine sI ?_; try with_reducible exact True.intro)
     refine ⟨grow_L (fun _ _ h => h) (.cons _ (List.Sublist.refl _)), ?_⟩
     (refine sI ?_; try with_reducible exact True.intro)
     refine stX_blk [] [_, _] rfl (by simp) ⟨rfl, rfl⟩ ?_
     (refine sI ?_; try with_reducible exact True.intro)
     refine ⟨grow_L (fun _ _ h => h) (.cons _ (List.Sublist.refl _)), ?_⟩
     (refine sI ?_; try with_reducible exact True.intro)
     exact go_l ⟨bk, eE, eE, rfl⟩
 rintro e h ⟨bk, e24, e22, rfl⟩
 refine go_keep [22, 24] ?_
 (refine sJ2 @e22 @e24 ?_; try with_reducible exact True.intro)
 (intros; try refine go_st ?_); refine go_r 115 117 (by decide) ?_; (refine sJ c91r21.eq_1 ?_; try with_reducible exact True.intro)
 refine ⟨_, ldN_all (.head _) rfl, ?_⟩
 (refine sI ?_; try with_reducible exact True.intro)
 refine (hckR G _ _).mono ?_; rintro _ _ ⟨rfl, rfl⟩; (refine sI ?_; try with_reducible exact True.intro)
 (intros; try refine go_st ?_); refine go_c ?_; (refine sI ?_; try with_reducible exact True.intro)
 refine gb (fun k7 => ?_) (fun k7 => ?_)
 · have k7 := of_decide_eq_true k7
   (intros; try refine go_st ?_); refine go_r 118 119 (by decide) ?_; (refine sJ c91r22.eq_1 ?_; try with_reducible exact True.intro)
   (intros; try refine go_st ?_)
   refine go_ret (retQ_v rfl ?_); simp only [push_cast, Nat.reduceBEq]
   rcases hchk with h | ⟨_, h⟩
   · rw [← h, if_neg k7]
     rfl
   · rw [h]
     rfl
 have k7 : chkR ⟨q0, q1, q2, q3, q4⟩ = 0 := by simpa using k7
 (repeat first | (with_reducible intro _) | refine go_skip ?_ | refine go_b ?_)
 (intros; try refine go_st ?_); refine go_r 119 121 (by decide) ?_; (refine sJ c91r23.eq_1 ?_; try with_reducible exact True.intro)
 refine ⟨_, ldN_all (.head _) rfl, ?_⟩
 (refine sI ?_; try with_reducible exact True.intro)
 (intros; try refine go_st ?_)
 refine go_ret (retQ_v rfl ?_); simp only [push_cast, Nat.reduceBEq]
 rcases hchk with h | ⟨h, _⟩
 · rw [← h, if_pos k7]
   rfl
 · rw [h] at k7
   cases k7
theorem F66 : Fun Try.prog 66 33 v66 c66 o66 := Fun.mk' Try.func66 Try.ntmps66 (by kernel_rfl) (by kernel_rfl) s66 q66
theorem F70 : Fun Try.prog 70 37 v70 c70 o70 := Fun.mk' Try.func70 Try.ntmps70 (by kernel_rfl) (by kernel_rfl) s70 q70
theorem putN_succ (n k : Nat) : putN n (k + 1) = putN (n / 256) k ++ [UInt8.ofNat n] := by
 unfold putN
 rw [List.range_succ, List.map_append]
 congr 1
 · apply List.map_congr_left
   intro i hi
   have hi := List.mem_range.1 hi
   congr 1
   rw [Nat.div_div_eq_div_mul, show k + 1 - 1 - i = (k - 1 - i) + 1 by omega, Nat.pow_succ, Nat.mul_comm]
 · simp
theorem numB_snoc (l : List UInt8) (x : UInt8) : numB (l ++ [x]) = numB l * 256 + x.toNat := by simp [numB]
theorem putN_numB : ∀ (k : Nat) (l : List UInt8), l.length = k → putN (numB l) k = l
 | 0, l, h => by
   have : l = [] := List.eq_nil_of_length_eq_zero h
   subst this
   rfl
 | k + 1, l, h => by
   obtain ⟨m, x, rfl⟩ : ∃ m x, l = m ++ [x] := by
     have hne : l ≠ [] := by intro h0; rw [h0] at h; cases h
     exact ⟨l.dropLast, l.getLast hne, (List.dropLast_concat_getLast hne).symm⟩
   have hx := x.toNat_lt
   have hl : m.length = k := by simpa using h
   rw [putN_succ, numB_snoc, show (numB m * 256 + x.toNat) / 256 = numB m by omega, putN_numB k m hl]
   congr 1
   have : UInt8.ofNat (numB m * 256 + x.toNat) = x := by
     apply UInt8.toNat_inj.1
     simp
   rw [this]
theorem numB_putN : ∀ (k n : Nat), n < 256 ^ k → numB (putN n k) = n
 | 0, n, h => by
   have : n = 0 := by simpa using h
   subst this
   rfl
 | k + 1, n, h => by
   rw [Nat.pow_succ] at h
   rw [putN_succ, numB_snoc, numB_putN k (n / 256) (by omega)]
   simp
   try omega
def openB (l : List UInt8) : List UInt8 × Int := if l.length < 4 then ([], 10) else if l.drop (l.length - 4) = putN (crcB (l.take (l.length - 4))).toNat 4 then (l.take (l.length - 4), 0) else ([], 20)
theorem putN_inj {a : W32} {m : List UInt8} (hm : m.length = 4) : numB m = a.toNat ↔ m = putN a.toNat 4 := by
 constructor
 · intro h
   rw [← h, putN_numB 4 m hm]
 · intro h
   rw [h, numB_putN 4 _ (by have := a.isLt; omega)]
theorem Open_ok (l : List UInt8) (v : Value) (G : Nat → Option Obj) (hl : SB G v l) (hb : l.length ≤ 1000000) : FnO Try.prog 66 #[v] G [] (fun _ L' r => OwnE (openB l) L' r) := by
 obtain ⟨A, c, rfl, hc, hm, hA⟩ := id hl
 refine F66.fnO (by simp) noRegs_nil (go_of ?_)
 unfold c66
 have w1 : IntKind.i64.wrap ((l.length : Int) - 4) = (l.length : Int) - 4 := by rw [w64_id] <;> omega
 (intros; try refine go_st ?_); refine go_r 0 0 (by decide) ?_; (refine sJ c66r0.eq_1 ?_; try with_reducible exact True.intro)
 (intros; try refine go_st ?_); refine go_r 7 10 (by decide) ?_; (refine sJ2 c66r1.eq_1 @w1 ?_; try with_reducible exact True.intro)
 (intros; try refine go_st ?_); refine go_r 10 11 (by decide) ?_; (refine sJ c66r2.eq_1 ?_; try with_reducible exact True.intro)
 (intros; try refine go_st ?_); refine go_c ?_; (refine sI ?_; try with_reducible exact True.intro)
 refine gb (fun h1 => ?_) (fun h1 => ?_)
 · have h1 := of_decide_eq_true h1
   (intros; try refine go_st ?_); refine go_r 0 0 (by decide) ?_; (refine sJ c66r3.eq_1 ?_; try with_reducible exact True.intro)
   (intros; try refine go_st ?_)
   refine go_ghost (ghost_nil none 5 1) ?_
   refine go_ret (retQ_o _ rfl (List.Sublist.refl _) (noRegs_row noRegs_nil) ?_)
   rw [openB, if_pos (by omega)]
   exact ⟨_, rfl, [], .nil, rfl⟩
 have h1 := of_decide_eq_false h1
 obtain ⟨k, hk⟩ : ∃ k, l.length = k + 4 := ⟨l.length - 4, by omega⟩
 have hn : ((l.length : Int) - 4) = (k : Int) := by omega
 obtain ⟨w, hw⟩ : ∃ w, w = crcB (l.take k) := ⟨_, rfl⟩
 have hop : openB l = if l.drop k = putN w.toNat 4 then (l.take k, 0) else ([], 20) := by rw [openB, if_neg (by omega), show l.length - 4 = k by omega, ← hw]
 have hd : (l.drop k).length = 4 := by simp; omega
 have hng := NGet_ok l k 4 (by omega) _ G hl
 rw [getN_nat, if_neg (by omega), List.take_of_length_le (by omega)] at hng
 have hinj := putN_inj (a := w) hd
 have hpre := SlV.pre k hl (by omega)
 have hsum := Sum_ok (l.take k) _ G hpre
 rw [← hw] at hsum
 unfold vW at hsum
 obtain ⟨x, hx⟩ : ∃ x, x = numB (l.drop k) := ⟨_, rfl⟩
 rw [← hx] at hng hinj
 dsimp only at hng
 rw [hn]
 have hbad : ¬ l.drop k = putN w.toNat 4 → ∀ (fr : List Td) (e : Env) (G' : Nat → Option Obj), go none Try.prog 33 v66.1 v66.2 (retQ o66 fun v h => OwnE (openB l) h.L v) (Td.s ((SC.reg false c66r6).seq .ret) :: fr) e ⟨G', [], []⟩ := fun hx fr e G' => by
   (intros; try refine go_st ?_); refine go_r 0 0 (by decide) ?_; (refine sJ c66r6.eq_1 ?_; try with_reducible exact True.intro)
   (intros; try refine go_st ?_)
   refine go_ghost (ghost_nil none 5 1) ?_
   refine go_ret (retQ_o _ rfl (List.Sublist.refl _) (noRegs_row noRegs_nil) ?_)
   rw [hop, if_neg hx]
   exact ⟨_, rfl, [], .nil, rfl⟩
 (repeat first | (with_reducible intro _) | refine go_skip ?_ | refine go_b ?_)
 (intros; try refine go_st ?_); refine go_r 12 18 (by decide) ?_; (refine sJ c66r4.eq_1 ?_; try with_reducible exact True.intro)
 refine (hng _ _).mono ?_; rintro _ _ ⟨rfl, rfl⟩; (refine sI ?_; try with_reducible exact True.intro)
 (intros; try refine go_st ?_); refine go_r 18 28 (by decide) ?_; (refine sJ c66r5.eq_1 ?_; try with_reducible exact True.intro)
 refine gd (fun h => by simp at h) (fun _ => ?_)
 (refine sI ?_; try with_reducible exact True.intro)
 refine ⟨by omega, ?_⟩
 refine (hsum _ _).mono ?_
 rintro r h' ⟨G1, rfl, hg1, rfl⟩
 (refine sJ @u64_W ?_; try with_reducible exact True.intro)
 (intros; try refine go_st ?_); refine go_c ?_; (refine sI ?_; try with_reducible exact True.intro)
 refine gb (fun h2 => ?_) (fun h2 => ?_)
 · have h2 := of_decide_eq_true h2
   exact hbad (fun h => h2 (by rw [hinj.2 h])) _ _ _
 have h2 : l.drop k = putN w.toNat 4 := hinj.1 (by have := of_decide_eq_false h2; omega)
 clear hbad
 (repeat first | (with_reducible intro _) | refine go_skip ?_ | refine go_b ?_)
 (intros; try refine go_st ?_); refine go_r 29 33 (by decide) ?_; (refine sJ c66r7.eq_1 ?_; try with_reducible exact True.intro)
 refine ⟨by omega, ?_⟩
 refine apX_v (.inr ⟨⟨none, rfl⟩, rfl, rfl, rfl, rfl⟩) (SB.le hpre hg1) rfl UE1 (by simp; unfold maxLen; omega) fun ys A c hc => ?_
 simp only [Nat.zero_add, List.nil_append]
 (refine sI ?_; try with_reducible exact True.intro)
 (intros; try refine go_st ?_)
 refine go_ret (retQ_o _ rfl (List.Sublist.refl _) (noRegs_row noRegs_nil) ?_)
 rw [hop, if_pos h2]
 exact ⟨_, rfl, ys, hc, rfl⟩
theorem ROpen_ok (l : List UInt8) (v : Value) (G : Nat → Option Obj) (hl : SB G v l) (hb : l.length ≤ 1000000) : FnO Try.prog 70 #[v] G [] (fun _ L' r => OwnE (openB l) L' r) := by
 obtain ⟨A, c, rfl, hc, hm, hA⟩ := id hl
 refine F70.fnO (by simp) noRegs_nil (go_of ?_)
 unfold c70
 have w1 : IntKind.i64.wrap ((l.length : Int) - 4) = (l.length : Int) - 4 := by rw [w64_id] <;> omega
 (intros; try refine go_st ?_); refine go_r 0 0 (by decide) ?_; (refine sJ c70r0.eq_1 ?_; try with_reducible exact True.intro)
 (intros; try refine go_st ?_); refine go_r 7 10 (by decide) ?_; (refine sJ2 c70r1.eq_1 @w1 ?_; try with_reducible exact True.intro)
 (intros; try refine go_st ?_); refine go_r 10 11 (by decide) ?_; (refine sJ c70r2.eq_1 ?_; try with_reducible exact True.intro)
 (intros; try refine go_st ?_); refine go_c ?_; (refine sI ?_; try with_reducible exact True.intro)
 refine gb (fun h1 => ?_) (fun h1 => ?_)
 · have h1 := of_decide_eq_true h1
   (intros; try refine go_st ?_); refine go_r 0 0 (by decide) ?_; (refine sJ c70r3.eq_1 ?_; try with_reducible exact True.intro)
   (intros; try refine go_st ?_)
   refine go_ghost (ghost_nil none 5 1) ?_
   refine go_ret (retQ_o _ rfl (List.Sublist.refl _) (noRegs_row noRegs_nil) ?_)
   rw [openB, if_pos (by omega)]
   exact ⟨_, rfl, [], .nil, rfl⟩
 have h1 := of_decide_eq_false h1
 obtain ⟨k, hk⟩ : ∃ k, l.length = k + 4 := ⟨l.length - 4, by omega⟩
 have hn : ((l.length : Int) - 4) = (k : Int) := by omega
 obtain ⟨w, hw⟩ : ∃ w, w = crcB (l.take k) := ⟨_, rfl⟩
 have hop : openB l = if l.drop k = putN w.toNat 4 then (l.take k, 0) else ([], 20) := by rw [openB, if_neg (by omega), show l.length - 4 = k by omega, ← hw]
 have hd : (l.drop k).length = 4 := by simp; omega
 have hpre := SlV.pre k hl (by omega)
 have hsum := RSum_ok (l.take k) _ G hpre
 rw [← hw] at hsum
 have hp4 := putN_len w.toNat 4
 rw [hn]
 (repeat first | (with_reducible intro _) | refine go_skip ?_ | refine go_b ?_)
 (intros; try refine go_st ?_); refine go_r 12 17 (by decide) ?_; (refine sJ c70r4.eq_1 ?_; try with_reducible exact True.intro)
 refine ⟨by omega, ?_⟩
 refine (hsum _ _).mono ?_; rintro _ _ ⟨rfl, rfl⟩; (refine sI ?_; try with_reducible exact True.intro)
 refine (ownL_d (by decide) (four_ok w G) _ []).mono ?_
 rintro r h' ⟨G1, rfl, hg1, B, d, rfl, hd1, hd2, hB⟩
 generalize hq : putN w.toNat 4 = q at hB hop hp4
 have hA1 := hA.le hg1 (E' := UE) fun _ _ h => h
 (refine sI ?_; try with_reducible exact True.intro)
 (intros; try refine go_st ?_); refine go_r 0 0 (by decide) ?_; (refine sJ c70r5.eq_1 ?_; try with_reducible exact True.intro)
 (intros; try refine go_st ?_)
 refine go_loop (fun e h => ∃ i : Nat, (i ≤ 4 ∧ (l.drop k).take i = q.take i) ∧ e 6 = .int .i64 i ∧ e 4 = .int .i64 k ∧ e 0 = .slice A l.length c ∧ e 5 = .slice B q.length d ∧ h = ⟨G1, [], []⟩) (fun e h => 4 - iv (e 6)) ?_ ?_
 · exact ⟨0, ⟨Nat.zero_le _, rfl⟩, eE, eE, eE, eE, rfl⟩
 · rintro e h ⟨i, ⟨hi, htk⟩, e6, e4, e0, e5, rfl⟩
   refine go_keep [0, 4, 5, 6] ?_
   (refine sJ4 @e0 @e4 @e5 @e6 ?_; try with_reducible exact True.intro)
   (intros; try refine go_st ?_); refine go_r 17 18 (by decide) ?_; (refine sJ c70r6.eq_1 ?_; try with_reducible exact True.intro)
   (intros; try refine go_st ?_); refine go_c ?_; (refine sI ?_; try with_reducible exact True.intro)
   refine gb (fun h2 => ?_) (fun h2 => ?_)
   · have hi4 : i < 4 := by have := of_decide_eq_true h2; omega
     have hw3 := inc_i i 4 hi4 (by unfold maxLen; omega)
     have w2 : IntKind.i64.wrap ((k : Int) + i) = ((k + i : Nat) : Int) := by rw [w64_id] <;> omega
     obtain ⟨x, hx⟩ : ∃ x, (l.drop k)[i]? = some x := ⟨(l.drop k)[i]'(by omega), List.getElem?_eq_getElem _⟩
     obtain ⟨y, hy⟩ : ∃ y, q[i]? = some y := ⟨q[i]'(by omega), List.getElem?_eq_getElem _⟩
     have hx' : l[k + i]? = some x := by rw [← List.getElem?_drop]; exact hx
     (repeat first | (with_reducible intro _) | refine go_skip ?_ | refine go_b ?_)
     (intros; try refine go_st ?_); refine go_q 21 31 (by decide) ?_; (refine sJ2 c70r7.eq_1 @w2 ?_; try with_reducible exact True.intro)
     refine hA1.y_l1 hx' (by omega) rfl ?_
     rintro a1 ha1 u hu
     cases hu
     (refine sI ?_; try with_reducible exact True.intro)
     refine hB.y_l1 hy rfl rfl ?_
     rintro a2 ha2 u hu
     cases hu
     (refine sI ?_; try with_reducible exact True.intro)
     (intros; try refine go_st ?_); refine go_c ?_; (refine sI ?_; try with_reducible exact True.intro)
     refine gb (fun h3 => ?_) (fun h3 => ?_)
     · have h3 := of_decide_eq_true h3
       (intros; try refine go_st ?_); refine go_r 0 0 (by decide) ?_; (refine sJ c70r8.eq_1 ?_; try with_reducible exact True.intro)
       (intros; try refine go_st ?_)
       refine go_ghost (ghost_nil none 5 1) ?_
       refine go_ret (retQ_o _ rfl (List.Sublist.refl _) (noRegs_row noRegs_nil) ?_)
       rw [hop, if_neg fun h => h3 (by rw [h, hy] at hx; cases hx; rfl)]
       exact ⟨_, rfl, [], .nil, rfl⟩
     · have h3 : x = y := by have := of_decide_eq_false h3; apply UInt8.toNat_inj.1; omega
       (repeat first | (with_reducible intro _) | refine go_skip ?_ | refine go_b ?_)
       (intros; try refine go_st ?_); refine go_r 19 21 (by decide) ?_; (refine sJ2 c70r9.eq_1 @hw3 ?_; try with_reducible exact True.intro)
       (intros; try refine go_st ?_)
       refine go_l ⟨⟨i + 1, ⟨by omega, take_succ_eq htk hx hy h3⟩, eE, eE, eE, eE, rfl⟩, ?_⟩
       (refine sI ?_; try with_reducible exact True.intro)
       omega
   · have hi4 : i = 4 := by have := of_decide_eq_false h2; omega
     subst hi4
     rw [List.take_of_length_le (by omega), List.take_of_length_le (by omega)] at htk
     refine go_exit ?_
     (refine sI ?_; try with_reducible exact True.intro)
     (intros; try refine go_st ?_); refine go_r 32 37 (by decide) ?_; (refine sJ c70r10.eq_1 ?_; try with_reducible exact True.intro)
     intro bk hbk
     refine ⟨by omega, ?_⟩
     refine apX_v (.inr ⟨⟨_, rfl⟩, rfl, rfl, rfl, rfl⟩) (SB.le hpre hg1) rfl UE1 (by simp; unfold maxLen; omega) fun ys A c hc => ?_
     simp only [Nat.zero_add, List.nil_append]
     (refine sI ?_; try with_reducible exact True.intro)
     (intros; try refine go_st ?_)
     refine go_ret (retQ_o _ rfl (List.Sublist.refl _) (noRegs_row noRegs_nil) ?_)
     rw [hop, if_pos htk]
     exact ⟨_, rfl, ys, hc, rfl⟩
theorem F85 : Fun Try.prog 85 18 v85 c85 o85 := Fun.mk' Try.func85 Try.ntmps85 (by kernel_rfl) (by kernel_rfl) s85 q85
theorem F67 : Fun Try.prog 67 155 v67 c67 o67 := Fun.mk' Try.func67 Try.ntmps67 (by kernel_rfl) (by kernel_rfl) s67 q67
def nums (l : List UInt8) : Nat → Option (List Int × Nat)
 | 0 => some ([], 0)
 | k + 1 => (nums l k).bind fun r => if (getV l r.2).2.2 = 0 then some (r.1 ++ [(getV l r.2).1], (getV l r.2).2.1.toNat) else none
def recsG (l : List UInt8) (base stamp : Int) (p : Nat) : Nat → Option (List Rec × Nat)
 | 0 => some ([], p)
 | k + 1 => (recsG l base stamp p k).bind fun r => if (getR l r.2 base stamp).2.2 = 0 then some (r.1 ++ [(getR l r.2 base stamp).1], (getR l r.2 base stamp).2.1.toNat) else none
def stOk (rs : List Rec) (stamp : Int) : Bool := match rs with
 | [] => true
 | r :: _ => decide (r.stamp = stamp)
def mkB (ns : List Int) (m : UInt8) (rs : List Rec) : Batch := ⟨ns.getD 0 0, ns.getD 0 0 + ns.getD 1 0, ns.getD 2 0, ns.getD 3 0, ns.getD 4 0, ns.getD 5 0, ns.getD 6 0, decide (4 ≤ m.toNat), ((m.toNat % 4 : Nat) : Int), rs⟩
def parse4 (l : List UInt8) (ns : List Int) (m : UInt8) (many : Nat) (s : Int × Int × Int) : Option Batch :=
 if s.2.2 = 0 then (recsG l (ns.getD 0 0) s.1 s.2.1.toNat many).bind fun r => if r.2 = l.length ∧ stOk r.1 s.1 = true then some (mkB ns m r.1) else none else none
def parse3 (l : List UInt8) (ns : List Int) (m : UInt8) (v : Int × Int × Int) : Option Batch :=
 if v.2.2 = 0 ∧ 0 ≤ v.1 ∧ v.1 ≤ 16 then parse4 l ns m v.1.toNat (if 0 < v.1 then getV l v.2.1 else (0, v.2.1, 0)) else none
def parse2 (w : Int) (l : List UInt8) (q : List Int × Nat) : Option Batch :=
 (l[q.2]?).bind fun m => if m.toNat < 8 ∧ (0 ≤ q.1.getD 0 0 ∧ q.1.getD 0 0 ≤ 1099511627776) ∧ (0 ≤ q.1.getD 1 0 ∧ q.1.getD 1 0 ≤ w) then parse3 l q.1 m (getV l ((q.2 : Int) + 1)) else none
def parseB (w : Int) (l : List UInt8) : Option Batch := (nums l 7).bind (parse2 w l)
theorem nums_none {l : List UInt8} : ∀ (j k : Nat), nums l k = none → nums l (k + j) = none
 | 0, _, h => h
 | j + 1, k, h => by rw [← Nat.add_assoc, nums, nums_none j k h]; rfl
theorem recsG_none {l : List UInt8} {base stamp : Int} {p : Nat} : ∀ (j k : Nat), recsG l base stamp p k = none → recsG l base stamp p (k + j) = none
 | 0, _, h => h
 | j + 1, k, h => by rw [← Nat.add_assoc, recsG, recsG_none j k h]; rfl
theorem recsG_pre {l : List UInt8} {base stamp : Int} {p many : Nat} {q : List Rec × Nat} (h : recsG l base stamp p many = some q) : ∀ k, k ≤ many → ∃ q2, recsG l base stamp p k = some q2 ∧ ∃ t, q.1 = q2.1 ++ t := by
 induction many generalizing q with
 | zero =>
   intro k hk
   have : k = 0 := by omega
   subst this
   exact ⟨q, h, [], by simp⟩
 | succ n ih =>
   intro k hk
   by_cases hkn : k = n + 1
   · subst hkn
     exact ⟨q, h, [], by simp⟩
   · rw [recsG] at h
     cases hn : recsG l base stamp p n with
     | none => rw [hn] at h; cases h
     | some q1 =>
       rw [hn] at h
       simp only [Option.bind_some] at h
       split at h
       · cases h
         obtain ⟨q2, h2, t, ht⟩ := ih hn k (by omega)
         exact ⟨q2, h2, t ++ [_], by dsimp only; rw [ht, List.append_assoc]⟩
       · cases h
theorem number_ok (l : List UInt8) (a : Int) (ok : Bool) (b1 b3 b4 : Nat) (v : Value) (G : Nat → Option Obj) (hl : SB G v l) (h1 : cellG G ⟨b1, 0, none⟩ = some v) :
   FnO Try.prog 85 #[.pointer (some ⟨b1, 0, none⟩), .pointer (some ⟨b4, 0, none⟩), .pointer (some ⟨b3, 0, none⟩)] G [.blk b4 [.int .i64 a], .blk b3 [.bool ok]]
     (fun G' L' r => G = G' ∧ r = .int .i64 (if (getV l a).2.2 = 0 then (getV l a).1 else 0) ∧ L' = [.blk b4 [.int .i64 (if (getV l a).2.2 = 0 then (getV l a).2.1 else a)], .blk b3 [.bool (if (getV l a).2.2 = 0 then ok else false)]]) := by
 refine F85.fnO (by simp) (noRegs_blk (noRegs_blk noRegs_nil)) (go_of ?_)
 unfold c85
 have hgv := GetVar_ok l a v G hl
 (intros; try refine go_st ?_); refine go_r 0 0 (by decide) ?_; (refine sJ c85r0.eq_1 ?_; try with_reducible exact True.intro)
 (intros; try refine go_st ?_); refine go_r 7 14 (by decide) ?_; (refine sJ c85r1.eq_1 ?_; try with_reducible exact True.intro)
 refine ⟨_, ⟨_, rfl, .g h1⟩, ?_⟩
 (refine sI ?_; try with_reducible exact True.intro)
 refine ⟨_, ldN_blk (.head _) rfl, ?_⟩
 refine (hgv _ _).mono ?_; rintro _ _ ⟨rfl, rfl⟩; (refine sI ?_; try with_reducible exact True.intro)
 (intros; try refine go_st ?_); refine go_r 14 15 (by decide) ?_; (refine sJ c85r2.eq_1 ?_; try with_reducible exact True.intro)
 (intros; try refine go_st ?_); refine go_c ?_; (refine sI ?_; try with_reducible exact True.intro)
 refine gb (fun k1 => ?_) (fun k1 => ?_)
 · have k1 := of_decide_eq_true k1
   (intros; try refine go_st ?_); refine go_r 0 0 (by decide) ?_; (refine sJ c85r3.eq_1 ?_; try with_reducible exact True.intro)
   refine stX_blk [_] [] rfl (by simp) ⟨rfl, rfl⟩ ?_
   (refine sI ?_; try with_reducible exact True.intro)
   (intros; try refine go_st ?_); refine go_r 0 0 (by decide) ?_; (refine sJ c85r4.eq_1 ?_; try with_reducible exact True.intro)
   (intros; try refine go_st ?_)
   refine go_ret (retQ_o _ rfl (List.Sublist.refl _) (noRegs_blk (noRegs_blk noRegs_nil)) ?_)
   rw [if_neg k1, if_neg k1, if_neg k1]
   exact ⟨rfl, rfl, rfl⟩
 · have k1 : (getV l a).2.2 = 0 := by simpa using k1
   (repeat first | (with_reducible intro _) | refine go_skip ?_ | refine go_b ?_)
   (intros; try refine go_st ?_); refine go_r 16 17 (by decide) ?_; (refine sJ c85r5.eq_1 ?_; try with_reducible exact True.intro)
   refine stX_blk [] [_] rfl (by simp) ⟨rfl, rfl⟩ ?_
   (refine sI ?_; try with_reducible exact True.intro)
   (intros; try refine go_st ?_); refine go_r 17 18 (by decide) ?_; (refine sJ c85r6.eq_1 ?_; try with_reducible exact True.intro)
   (intros; try refine go_st ?_)
   refine go_ret (retQ_o _ rfl (List.Sublist.refl _) (noRegs_blk (noRegs_blk noRegs_nil)) ?_)
   rw [if_pos k1, if_pos k1, if_pos k1]
   exact ⟨rfl, rfl, rfl⟩
def numC (ns : List Int) : List Value := ns.map fun n => .int .i64 n
theorem splice_num {zs : List Int} {k : Nat} {x : Int} (hk : k < zs.length) : splice (numC zs) k [.int .i64 x] = numC (zs.set k x) := by
 rw [splice1 _ (by simpa [numC] using hk)]
 simp [numC]
theorem take_set {zs : List Int} {k : Nat} {x : Int} (hk : k < zs.length) : (zs.set k x).take (k + 1) = zs.take k ++ [x] := by
 rw [List.take_succ_eq_append_getElem (by simpa using hk), List.take_set_of_le (Nat.le_refl _)]
 simp
theorem and_4 {x : UInt8} (h : x.toNat < 8) : binV .and (.int .u8 (x.toNat : Int)) (.int .u8 4) = some (.int .u8 (if 4 ≤ x.toNat then 4 else 0)) := by
 have key : ∀ b : Fin 8, (BitVec.ofInt 8 ((b.val : Nat) : Int) &&& BitVec.ofInt 8 4).toNat = if 4 ≤ b.val then 4 else 0 := by decide +kernel
 have h2 := key ⟨x.toNat, h⟩
 simp only [binV]
 rw [if_pos trivial]
 have h3 : (BitVec.ofInt IntKind.u8.bits (x.toNat : Int) &&& BitVec.ofInt IntKind.u8.bits 4).toNat = if 4 ≤ x.toNat then 4 else 0 := h2
 rw [h3]
 split <;> rfl
theorem andNot_4 {x : UInt8} (h : x.toNat < 8) : binV .andNot (.int .u8 (x.toNat : Int)) (.int .u8 4) = some (.int .u8 ((x.toNat % 4 : Nat) : Int)) := by
 have key : ∀ b : Fin 8, (BitVec.ofInt 8 ((b.val : Nat) : Int) &&& ~~~ BitVec.ofInt 8 4).toNat = b.val % 4 := by decide +kernel
 have h2 := key ⟨x.toNat, h⟩
 simp only [binV]
 rw [if_pos trivial]
 have h3 : (BitVec.ofInt IntKind.u8.bits (x.toNat : Int) &&& ~~~ BitVec.ofInt IntKind.u8.bits 4).toNat = x.toNat % 4 := h2
 rw [h3, IntKind.wrap_u8]
 congr 2
 omega
def ParseR (w : Int) (l : List UInt8) (G : Nat → Option Obj) (r : Value) : Prop := ∃ x cs ok, r = .tuple #[.agg cs.toArray, .bool ok] ∧ BE G x cs ∧ (if ok = true then parseB w l = some x else parseB w l = none)
theorem BE.zero {G : Nat → Option Obj} : BE G ⟨0, 0, 0, 0, 0, 0, 0, false, 0, []⟩ [.int .i64 0, .int .i64 0, .int .i64 0, .int .i64 0, .int .i64 0, .int .i64 0, .int .i64 0, .bool false, .int .i64 0, .slice none 0 0] := ⟨none, 0, rfl, ⟨Nat.le_refl _, Nat.zero_le _, fun i x hx => by simp at hx⟩, by decide, by decide, by decide, by decide, by decide, by decide, by decide, by decide⟩
theorem getV_i (l : List UInt8) (a : Int) : I64 (if (getV l a).2.2 = 0 then (getV l a).1 else 0) := by
 split
 · rename_i h
   obtain ⟨_, _, _, _, _, h⟩ := getV_ok h
   exact h
 · decide
theorem app1 {α : Type} {E : α → List Value → Prop} {P : Program} {h : H} {d sz et nb : Nat} {l : List SI} {e : Env} {K : Env → H → Prop} {u : Value} {b : Nat} {zs : List α} {zc cs : List Value} {L1 L2 : List Kx.Item} {x : α} (hL : h.L = .row (.slice (some ⟨b, 0, none⟩) 1 1) et sz 1 cs :: L1 ++ .row u et sz zs.length zc :: L2)
   (hE : E x cs) (hl : cs.length = sz) (h1 : ∀ u ∈ cs, u.oneCell' = true) (hc : Cells E sz zs zc) (hz : zs.length ≤ 1000000) (hnb : nb ≤ 1000)
   (hk : ∀ A' c' zc', Cells E sz (zs ++ [x]) zc' → kR P l d e K (.slice A' (zs ++ [x]).length c') ⟨h.G, .row (.slice (some ⟨b, 0, none⟩) 1 1) et sz 1 cs :: L1 ++ .row (.slice A' (zs ++ [x]).length c') et sz (zs ++ [x]).length zc' :: L2, h.D⟩) :
   apX P u (.slice (some ⟨b, 0, none⟩) 1 1) et sz nb d l e h K := by
 refine ⟨.row (.slice (some ⟨b, 0, none⟩) 1 1) et sz 1 cs :: L1, zs.length, zc, L2, 1, cs, .inl hL, srcH_row (h := h) (by rw [hL]; exact .head _) h1 (by rw [hl, Nat.one_mul]), ⟨?_, by unfold maxLen; omega⟩, fun A' c' => ?_⟩
 · have : (zs.length + 1) * nb ≤ 1000001 * 1000 := Nat.mul_le_mul (by omega) hnb
   omega
 · have := hk A' c' (zc ++ cs) (hc.app (.one hE hl))
   simp only [List.length_append, List.length_cons, List.length_nil, Nat.zero_add] at this
   exact this
theorem getR_RR (l : List UInt8) (a base stamp : Int) : RR (getR l a base stamp).1 (cellR (getR l a base stamp).1) := by
 have hz : RR noneR (cellR noneR) := ⟨rfl, ⟨by decide, by decide⟩, by decide, by decide⟩
 unfold getR
 split
 · split
   · split
     · rename_i h
       obtain ⟨⟨h1, h2⟩, h3, h4⟩ := chk_small h
       simp [inO] at h1 h2
       refine ⟨rfl, ⟨?_, ?_⟩, ?_, ?_⟩
       · dsimp only; unfold I64; omega
       · dsimp only; unfold I64; omega
       · dsimp only; unfold maxLen; omega
       · dsimp only; unfold maxLen; omega
     · exact hz
   · exact hz
 · exact hz
theorem getT_nn (l : List UInt8) (a most : Int) : 0 ≤ (getT l a most).2.1 := by
 have := getV_nn l a
 unfold getT
 split
 · split
   · simp
   · split
     · simp
     · split
       · simp
       · dsimp only; omega
 · simp
theorem getR_nn (l : List UInt8) (a base stamp : Int) : 0 ≤ (getR l a base stamp).2.1 := by
 unfold getR
 split
 · split
   · rename_i h5
     split
     · dsimp only
       unfold g5 nx at h5 ⊢
       split
       · exact getT_nn _ _ _
       · rename_i h4
         rw [if_neg h4] at h5
         exact absurd h5 h4
     · simp
   · simp
 · simp
set_option maxHeartbeats 2000000 in
theorem parse_ok (l : List UInt8) (v : Value) (G : Nat → Option Obj) (hl : SB G v l) (hb : l.length ≤ 1000000) : FnD Try.prog 67 #[v] G (ParseR 15 l) := by
 refine F67.fnD (by simp) (go_of ?_)
 have hl00 := hl
 obtain ⟨A, c, rfl, hc, hm, hA⟩ := hl
 unfold c67
 (intros; try refine go_st ?_); refine go_r 0 0 (by decide) ?_; (refine sJ c67r0.eq_1 ?_; try with_reducible exact True.intro)
 intro b1 hb1
 (refine sI ?_; try with_reducible exact True.intro)
 intro b3 hb3
 (refine sI ?_; try with_reducible exact True.intro)
 (intros; try refine go_st ?_); refine go_r 0 0 (by decide) ?_; (refine sJ c67r1.eq_1 ?_; try with_reducible exact True.intro)
 intro b4 hb4
 (refine sI ?_; try with_reducible exact True.intro)
 refine stX_blk [] [_, _, _] rfl (by simp) ⟨rfl, rfl⟩ ?_
 (refine sI ?_; try with_reducible exact True.intro)
 (intros; try refine go_st ?_); refine go_r 0 0 (by decide) ?_; (refine sJ c67r2.eq_1 ?_; try with_reducible exact True.intro)
 refine stX_blk [_] [_, _] rfl (by simp) ⟨rfl, rfl⟩ ?_
 (refine sI ?_; try with_reducible exact True.intro)
 (intros; try refine go_st ?_); refine go_r 15 16 (by decide) ?_; (refine sJ c67r3.eq_1 ?_; try with_reducible exact True.intro)
 (intros; try refine go_st ?_); refine go_r 0 0 (by decide) ?_; (refine sJ c67r4.eq_1 ?_; try with_reducible exact True.intro)
 intro b6 hb6
 (refine sI ?_; try with_reducible exact True.intro)
 (intros; try refine go_st ?_); refine go_r 0 0 (by decide) ?_; (refine sJ c67r5.eq_1 ?_; try with_reducible exact True.intro)
 (repeat first | (with_reducible intro _) | refine go_skip ?_ | refine go_b ?_)
 refine go_gx (gx_blk_at [_, _, _, _] []) ?_
 rintro h' ⟨G1, rfl, hg1, hcell⟩
 have h1 : cellG G1 ⟨b1, 0, none⟩ = some (.slice A l.length c) := by have := hcell 0 _ rfl; rwa [add_mk] at this
 clear hcell
 have hl1 := SB.le hl00 hg1
 refine go_ghost (ghost_perm (L' := [.blk b4 [.int .i64 0], .blk b3 [.bool true], .blk b6 (numC [0, 0, 0, 0, 0, 0, 0]), .reg 2 [.int .i64 0, .int .i64 0, .int .i64 0, .int .i64 0, .int .i64 0, .int .i64 0, .int .i64 0, .bool false, .int .i64 0, .slice none 0 0]]) ((List.Perm.swap _ _ _).trans (List.Perm.cons _ (List.Perm.swap _ _ _)))) ?_
 have hrest : ∀ (e : Env), True := fun _ => trivial
 refine go_cut (fun e h => ∃ (ns : List Int) (a : Int) (ok : Bool), (ns.length = 7 ∧ (∀ z ∈ ns, I64 z) ∧ ((ok = true ∧ 0 ≤ a ∧ nums l 7 = some (ns, a.toNat)) ∨ (ok = false ∧ nums l 7 = none))) ∧
   (e 1 = .pointer (some ⟨b1, 0, none⟩) ∧ e 3 = .pointer (some ⟨b3, 0, none⟩) ∧ e 4 = .pointer (some ⟨b4, 0, none⟩) ∧ e 6 = .pointer (some ⟨b6, 0, none⟩) ∧ e 5 = .func (.func 85) #[] #[.pointer (some ⟨b1, 0, none⟩), .pointer (some ⟨b4, 0, none⟩), .pointer (some ⟨b3, 0, none⟩)]) ∧
   h = ⟨G1, [.blk b4 [.int .i64 a], .blk b3 [.bool ok], .blk b6 (numC ns), .reg 2 [.int .i64 0, .int .i64 0, .int .i64 0, .int .i64 0, .int .i64 0, .int .i64 0, .int .i64 0, .bool false, .int .i64 0, .slice none 0 0]], []⟩) ?_ ?_
 · (intros; try refine go_st ?_)
   refine go_loop (fun e h => ∃ (k : Nat) (zs : List Int) (a : Int) (ok : Bool), (k ≤ 7 ∧ zs.length = 7 ∧ (∀ z ∈ zs, I64 z) ∧ ((ok = true ∧ 0 ≤ a ∧ nums l k = some (zs.take k, a.toNat)) ∨ (ok = false ∧ nums l 7 = none))) ∧ e 16 = .int .i64 k ∧
     e 1 = .pointer (some ⟨b1, 0, none⟩) ∧ e 3 = .pointer (some ⟨b3, 0, none⟩) ∧ e 4 = .pointer (some ⟨b4, 0, none⟩) ∧ e 6 = .pointer (some ⟨b6, 0, none⟩) ∧ e 5 = .func (.func 85) #[] #[.pointer (some ⟨b1, 0, none⟩), .pointer (some ⟨b4, 0, none⟩), .pointer (some ⟨b3, 0, none⟩)] ∧
     h = ⟨G1, [.blk b4 [.int .i64 a], .blk b3 [.bool ok], .blk b6 (numC zs), .reg 2 [.int .i64 0, .int .i64 0, .int .i64 0, .int .i64 0, .int .i64 0, .int .i64 0, .int .i64 0, .bool false, .int .i64 0, .slice none 0 0]], []⟩) (fun e h => 7 - iv (e 16)) ?_ ?_
   · exact ⟨0, [0, 0, 0, 0, 0, 0, 0], 0, true, ⟨Nat.zero_le _, rfl, by decide, .inl ⟨rfl, by omega, rfl⟩⟩, eE, eE, eE, eE, eE, eE, rfl⟩
   · rintro e h ⟨k, zs, a, ok, ⟨hk, hzl, hzi, hst⟩, e16, e1, e3, e4, e6, e5, rfl⟩
     refine go_keep [1, 3, 4, 5, 6, 16] ?_
     (refine sJ6 @e1 @e3 @e4 @e5 @e6 @e16 ?_; try with_reducible exact True.intro)
     (intros; try refine go_st ?_); refine go_r 0 0 (by decide) ?_; (refine sJ c67r6.eq_1 ?_; try with_reducible exact True.intro)
     (intros; try refine go_st ?_); refine go_c ?_; (refine sI ?_; try with_reducible exact True.intro)
     refine gb (fun ht => ?_) (fun ht => ?_)
     · have hk7 : k < 7 := by have := of_decide_eq_true ht; omega
       have hw := inc_i k 7 hk7 (by unfold maxLen; omega)
       have hi := getV_i l a
       (repeat first | (with_reducible intro _) | refine go_skip ?_ | refine go_b ?_)
       (intros; try refine go_st ?_); refine go_r 18 19 (by decide) ?_; (refine sJ c67r7.eq_1 ?_; try with_reducible exact True.intro)
       (intros; try refine go_st ?_); refine go_r 19 23 (by decide) ?_; (refine sJ c67r8.eq_1 ?_; try with_reducible exact True.intro)
       refine .inl ⟨_, _, rfl, ?_⟩
       refine (number_ok l a ok b1 b3 b4 _ G1 hl1 h1 _ []).mono ?_
       rintro r h' ⟨G', L', rfl, -, rfl, rfl, rfl⟩
       (refine sI ?_; try with_reducible exact True.intro)
       refine ⟨by omega, ?_⟩
       rw [show 0 + k * 1 = k by omega]
       refine stX_blk [_, _] [_] rfl (by simp [numC]; omega) ⟨rfl, rfl⟩ ?_
       simp only [List.cons_append, List.nil_append]
       rw [splice_num (by omega)]
       (refine sI ?_; try with_reducible exact True.intro)
       (intros; try refine go_st ?_); refine go_r 23 24 (by decide) ?_; (refine sJ2 c67r9.eq_1 @hw ?_; try with_reducible exact True.intro)
       (intros; try refine go_st ?_)
       refine go_l ⟨⟨k + 1, zs.set k (if (getV l a).2.2 = 0 then (getV l a).1 else 0), (if (getV l a).2.2 = 0 then (getV l a).2.1 else a), (if (getV l a).2.2 = 0 then ok else false), ⟨by omega, by simp [hzl], fun z hz => ?_, ?_⟩, eE, eE, eE, eE, eE, eE, rfl⟩, ?_⟩
       · rcases List.mem_or_eq_of_mem_set hz with h | h
         · exact hzi z h
         · rw [h]; exact hi
       · rcases hst with ⟨h1, h2, h3⟩ | ⟨h1, h2⟩
         · by_cases hv : (getV l a).2.2 = 0
           · rw [if_pos hv, if_pos hv, if_pos hv]
             refine .inl ⟨h1, getV_nn l a, ?_⟩
             rw [nums, h3, take_set (by omega)]
             simp only [Option.bind_some]
             rw [Int.toNat_of_nonneg h2, if_pos hv]
           · rw [if_neg hv, if_neg hv, if_neg hv]
             refine .inr ⟨rfl, ?_⟩
             have : nums l (k + 1) = none := by
               rw [nums, h3]
               simp only [Option.bind_some]
               rw [Int.toNat_of_nonneg h2, if_neg hv]
             have := nums_none (7 - (k + 1)) (k + 1) this
             rwa [show k + 1 + (7 - (k + 1)) = 7 by omega] at this
         · refine .inr ⟨?_, h2⟩
           rw [h1]
           split <;> rfl
       · (refine sI ?_; try with_reducible exact True.intro)
         omega
     · have hk7 : k = 7 := by have := of_decide_eq_false ht; omega
       subst hk7
       rw [List.take_of_length_le (by omega)] at hst
       refine go_exit ?_
       (refine sI ?_; try with_reducible exact True.intro)
       exact go_l ⟨zs, a, ok, ⟨hzl, hzi, hst⟩, ⟨eE, eE, eE, eE, eE⟩, rfl⟩
 rintro e h ⟨ns, a, ok, ⟨hnl, hni, hst⟩, ⟨e1, e3, e4, e6, e5⟩, rfl⟩
 refine go_keep [1, 3, 4, 5, 6] ?_
 (refine sJ5 @e1 @e3 @e4 @e5 @e6 ?_; try with_reducible exact True.intro)
 have hbad : ∀ (fr : List Td) (e : Env) (a : Int) (ok : Bool), parseB 15 l = none → e 3 = .pointer (some ⟨b3, 0, none⟩) → go none Try.prog 155 v67.1 v67.2 (retQ o67 fun v h => ParseR 15 l h.G v) (Td.s ((SC.reg false c67r11).seq .ret) :: fr) e ⟨G1, [.blk b4 [.int .i64 a], .blk b3 [.bool ok], .blk b6 (numC ns), .reg 2 [.int .i64 0, .int .i64 0, .int .i64 0, .int .i64 0, .int .i64 0, .int .i64 0, .int .i64 0, .bool false, .int .i64 0, .slice none 0 0]], []⟩ := fun fr e a ok hx e3 => by
   refine go_keep [3] ?_
   (refine sJ @e3 ?_; try with_reducible exact True.intro)
   (intros; try refine go_st ?_); refine go_r 59 60 (by decide) ?_; (refine sJ c67r11.eq_1 ?_; try with_reducible exact True.intro)
   refine stX_blk [_] [_, _] rfl (by simp) ⟨rfl, rfl⟩ ?_
   (refine sI ?_; try with_reducible exact True.intro)
   (intros; try refine go_st ?_)
   refine go_ghost (ghost_sub (L' := [.blk b3 [.bool false], .reg 2 [.int .i64 0, .int .i64 0, .int .i64 0, .int .i64 0, .int .i64 0, .int .i64 0, .int .i64 0, .bool false, .int .i64 0, .slice none 0 0]]) (.cons _ (.cons_cons _ (.cons _ (List.Sublist.refl _))))) ?_
   refine go_ret (retQ_v (out := [.agg #[.int .i64 0, .int .i64 0, .int .i64 0, .int .i64 0, .int .i64 0, .int .i64 0, .int .i64 0, .bool false, .int .i64 0, .slice none 0 0], .bool false]) ?_ ?_)
   · simp [o67, resV, Kx.getR, getB, blkO, ldC, Env.set]
   · refine ⟨_, _, false, rfl, BE.zero, ?_⟩
     exact hx
 obtain ⟨n0, n1, n2, n3, n4, n5, n6, rfl⟩ : ∃ n0 n1 n2 n3 n4 n5 n6 : Int, ns = [n0, n1, n2, n3, n4, n5, n6] := by
   match ns, hnl with
   | [n0, n1, n2, n3, n4, n5, n6], _ => exact ⟨n0, n1, n2, n3, n4, n5, n6, rfl⟩
 have m3 : ∀ {x y z u : Kx.Item} {L : List Kx.Item}, z ∈ x :: y :: z :: u :: L := .tail _ (.tail _ (.head _))
 have m2 : ∀ {x y z u : Kx.Item} {L : List Kx.Item}, y ∈ x :: y :: z :: u :: L := .tail _ (.head _)
 have hA1 := hA.le hg1 (E' := UE) fun _ _ h => h
 unfold maxLen at hm
 (repeat (with_reducible intro _)); try refine go_seq ?_
 refine go_cut (fun e h => ∃ (p : Nat) (m : UInt8), (nums l 7 = some ([n0, n1, n2, n3, n4, n5, n6], p) ∧ l[p]? = some m ∧ m.toNat < 8 ∧ (0 ≤ n0 ∧ n0 ≤ 1099511627776) ∧ 0 ≤ n1 ∧ n1 ≤ 15) ∧
   (e 1 = .pointer (some ⟨b1, 0, none⟩) ∧ e 3 = .pointer (some ⟨b3, 0, none⟩) ∧ e 4 = .pointer (some ⟨b4, 0, none⟩) ∧ e 6 = .pointer (some ⟨b6, 0, none⟩) ∧ e 5 = .func (.func 85) #[] #[.pointer (some ⟨b1, 0, none⟩), .pointer (some ⟨b4, 0, none⟩), .pointer (some ⟨b3, 0, none⟩)]) ∧
   h = ⟨G1, [.blk b4 [.int .i64 (p : Int)], .blk b3 [.bool true], .blk b6 (numC [n0, n1, n2, n3, n4, n5, n6]), .reg 2 [.int .i64 0, .int .i64 0, .int .i64 0, .int .i64 0, .int .i64 0, .int .i64 0, .int .i64 0, .bool false, .int .i64 0, .slice none 0 0]], []⟩) ?_ ?_
 · (intros; try refine go_st ?_); refine go_r 24 58 (by decide) ?_; (refine sJ c67r10.eq_1 ?_; try with_reducible exact True.intro)
   refine ⟨_, ldN_blk m2 rfl, ?_⟩
   (refine sI ?_; try with_reducible exact True.intro)
   refine gd (fun k0 => ?_) (fun k0 => ?_)
   · have k0 : ok = false := by simpa using k0
     (refine sI ?_; try with_reducible exact True.intro)
     (intros; try refine go_st ?_); refine go_c ?_; (refine sI ?_; try with_reducible exact True.intro)
     rcases hst with ⟨h, _⟩ | ⟨_, h⟩
     · rw [h] at k0; cases k0
     · refine hbad _ _ _ _ (by rw [parseB, h]; rfl) (eE)
   have k0 : ok = true := by simpa using k0
   subst k0
   rcases hst with ⟨-, ha, hnum⟩ | ⟨h, _⟩
   rotate_left
   · cases h
   obtain ⟨p, rfl⟩ : ∃ p : Nat, a = p := ⟨a.toNat, by omega⟩
   rw [Int.toNat_natCast] at hnum
   have hb2 : parse2 15 l ([n0, n1, n2, n3, n4, n5, n6], p) = none → parseB 15 l = none := fun h => by rw [parseB, hnum]; exact h
   (refine sI ?_; try with_reducible exact True.intro)
   refine ⟨_, ldN_blk (.head _) rfl, ?_⟩
   (refine sI ?_; try with_reducible exact True.intro)
   refine ⟨_, ⟨_, rfl, .g h1⟩, ?_⟩
   (refine sI ?_; try with_reducible exact True.intro)
   refine gd (fun k1 => ?_) (fun k1 => ?_)
   · have k1 := of_decide_eq_true k1
     (refine sI ?_; try with_reducible exact True.intro)
     (intros; try refine go_st ?_); refine go_c ?_; (refine sI ?_; try with_reducible exact True.intro)
     refine hbad _ _ _ _ (hb2 ?_) (eE)
     rw [parse2, List.getElem?_eq_none (by dsimp only; omega)]
     rfl
   have k1 := of_decide_eq_false k1
   obtain ⟨m, hy⟩ : ∃ m, l[p]? = some m := ⟨l[p]'(by omega), List.getElem?_eq_getElem _⟩
   have hb3 : ¬ (m.toNat < 8 ∧ (0 ≤ n0 ∧ n0 ≤ 1099511627776) ∧ (0 ≤ n1 ∧ n1 ≤ 15)) → parseB 15 l = none := fun h => hb2 (by
     rw [parse2, hy]
     simp only [Option.bind_some]
     exact if_neg h)
   (refine sI ?_; try with_reducible exact True.intro)
   refine ⟨_, ⟨_, rfl, .g h1⟩, ?_⟩
   (refine sI ?_; try with_reducible exact True.intro)
   refine ⟨_, ldN_blk (.head _) rfl, ?_⟩
   (refine sI ?_; try with_reducible exact True.intro)
   refine hA1.x_l1 hy rfl rfl ?_
   rintro a1 ha1 u hu
   cases hu
   (refine sI ?_; try with_reducible exact True.intro)
   refine gd (fun k2 => ?_) (fun k2 => ?_)
   · have k2 := of_decide_eq_true k2
     (refine sI ?_; try with_reducible exact True.intro)
     (intros; try refine go_st ?_); refine go_c ?_; (refine sI ?_; try with_reducible exact True.intro)
     exact hbad _ _ _ _ (hb3 fun h => by omega) (eE)
   have k2 := of_decide_eq_false k2
   (refine sI ?_; try with_reducible exact True.intro)
   refine ⟨by omega, ?_⟩
   refine ⟨_, ldN_blk (o := 0) m3 rfl, ?_⟩
   (refine sI ?_; try with_reducible exact True.intro)
   refine gd (fun k3 => ?_) (fun k3 => ?_)
   · have k3 := of_decide_eq_true k3
     (refine sI ?_; try with_reducible exact True.intro)
     (intros; try refine go_st ?_); refine go_c ?_; (refine sI ?_; try with_reducible exact True.intro)
     exact hbad _ _ _ _ (hb3 fun h => by omega) (eE)
   have k3 := of_decide_eq_false k3
   (refine sI ?_; try with_reducible exact True.intro)
   refine ⟨by omega, ?_⟩
   refine ⟨_, ldN_blk (o := 0) m3 rfl, ?_⟩
   (refine sI ?_; try with_reducible exact True.intro)
   refine gd (fun k4 => ?_) (fun k4 => ?_)
   · have k4 := of_decide_eq_true k4
     (refine sI ?_; try with_reducible exact True.intro)
     (intros; try refine go_st ?_); refine go_c ?_; (refine sI ?_; try with_reducible exact True.intro)
     exact hbad _ _ _ _ (hb3 fun h => by omega) (eE)
   have k4 := of_decide_eq_false k4
   (refine sI ?_; try with_reducible exact True.intro)
   refine ⟨by omega, ?_⟩
   refine ⟨_, ldN_blk (o := 1) m3 rfl, ?_⟩
   (refine sI ?_; try with_reducible exact True.intro)
   refine gd (fun k5 => ?_) (fun k5 => ?_)
   · have k5 := of_decide_eq_true k5
     (refine sI ?_; try with_reducible exact True.intro)
     (intros; try refine go_st ?_); refine go_c ?_; (refine sI ?_; try with_reducible exact True.intro)
     exact hbad _ _ _ _ (hb3 fun h => by omega) (eE)
   have k5 := of_decide_eq_false k5
   (refine sI ?_; try with_reducible exact True.intro)
   refine ⟨by omega, ?_⟩
   refine ⟨_, ldN_blk (o := 1) m3 rfl, ?_⟩
   (refine sI ?_; try with_reducible exact True.intro)
   (intros; try refine go_st ?_); refine go_c ?_; (refine sI ?_; try with_reducible exact True.intro)
   refine gb (fun k6 => ?_) (fun k6 => ?_)
   · have k6 := of_decide_eq_true k6
     exact hbad _ _ _ _ (hb3 fun h => by omega) (eE)
   have k6 := of_decide_eq_false k6
   (intros; try refine go_st ?_)
   exact go_l ⟨p, m, ⟨hnum, hy, by omega, by omega, by omega, by omega⟩, ⟨eE, eE, eE, eE, eE⟩, rfl⟩
 clear hbad hst
 rintro e h ⟨p, m, ⟨hnum, hy, hm8, hn0, hn1, hn1'⟩, ⟨e1, e3, e4, e6, e5⟩, rfl⟩
 have hpl := (List.getElem?_eq_some_iff.1 hy).1
 have hb3 : parseB 15 l = parse3 l [n0, n1, n2, n3, n4, n5, n6] m (getV l ((p : Int) + 1)) := by
   rw [parseB, hnum]
   simp only [Option.bind_some]
   rw [parse2, hy]
   simp only [Option.bind_some]
   exact if_pos ⟨hm8, hn0, hn1, hn1'⟩
 refine go_keep [1, 3, 4, 5, 6] ?_
 (refine sJ5 @e1 @e3 @e4 @e5 @e6 ?_; try with_reducible exact True.intro)
 have wp := inc_i p l.length hpl (by unfold maxLen; omega)
 have wl : IntKind.i64.wrap (n0 + n1) = n0 + n1 := by rw [w64_id] <;> omega
 (intros; try refine go_st ?_); refine go_r 60 64 (by decide) ?_; (refine sJ c67r12.eq_1 ?_; try with_reducible exact True.intro)
 refine ⟨_, ⟨_, rfl, .g h1⟩, ?_⟩
 (refine sI ?_; try with_reducible exact True.intro)
 refine ⟨_, ldN_blk (.head _) rfl, ?_⟩
 (refine sI ?_; try with_reducible exact True.intro)
 refine hA1.x_l1 hy rfl rfl ?_
 rintro a1 ha1 u hu
 cases hu
 (refine sI ?_; try with_reducible exact True.intro)
 (intros; try refine go_st ?_); refine go_r 64 66 (by decide) ?_; (refine sJ c67r13.eq_1 ?_; try with_reducible exact True.intro)
 refine ⟨_, ldN_blk (.head _) rfl, ?_⟩
 (refine sJ @wp ?_; try with_reducible exact True.intro)
 refine stX_blk [] [_, _, _] rfl (by simp) ⟨rfl, rfl⟩ ?_
 (refine sI ?_; try with_reducible exact True.intro)
 (intros; try refine go_st ?_); refine go_r 66 90 (by decide) ?_; (refine sJ c67r14.eq_1 ?_; try with_reducible exact True.intro)
 refine ⟨by omega, ?_⟩
 refine ⟨_, ldN_blk (o := 0) m3 rfl, ?_⟩
 (refine sI ?_; try with_reducible exact True.intro)
 refine ⟨by omega, ?_⟩
 refine ⟨_, ldN_blk (o := 0) m3 rfl, ?_⟩
 (refine sI ?_; try with_reducible exact True.intro)
 refine ⟨by omega, ?_⟩
 refine ⟨_, ldN_blk (o := 1) m3 rfl, ?_⟩
 (refine sJ @wl ?_; try with_reducible exact True.intro)
 refine ⟨by omega, ?_⟩
 refine ⟨_, ldN_blk (o := 2) m3 rfl, ?_⟩
 (refine sI ?_; try with_reducible exact True.intro)
 refine ⟨by omega, ?_⟩
 refine ⟨_, ldN_blk (o := 3) m3 rfl, ?_⟩
 (refine sI ?_; try with_reducible exact True.intro)
 refine ⟨by omega, ?_⟩
 refine ⟨_, ldN_blk (o := 4) m3 rfl, ?_⟩
 (refine sI ?_; try with_reducible exact True.intro)
 refine ⟨by omega, ?_⟩
 refine ⟨_, ldN_blk (o := 5) m3 rfl, ?_⟩
 (refine sI ?_; try with_reducible exact True.intro)
 refine ⟨by omega, ?_⟩
 refine ⟨_, ldN_blk (o := 6) m3 rfl, ?_⟩
 have htx : decide ((if 4 ≤ m.toNat then (4 : Int) else 0) ≠ 0) = decide (4 ≤ m.toNat) := by split <;> simp_all
 have hct : IntKind.i64.wrap ((m.toNat % 4 : Nat) : Int) = ((m.toNat % 4 : Nat) : Int) := by rw [w64_id] <;> omega
 have hmk : ∀ rs, mkB [n0, n1, n2, n3, n4, n5, n6] m rs = ⟨n0, n0 + n1, n2, n3, n4, n5, n6, decide (4 ≤ m.toNat), ((m.toNat % 4 : Nat) : Int), rs⟩ := fun _ => rfl
 have hcti : I64 ((m.toNat % 4 : Nat) : Int) := by unfold I64; omega
 generalize decide (4 ≤ m.toNat) = tx at htx hmk
 have han := andNot_4 hm8
 generalize ((m.toNat % 4 : Nat) : Int) = ct at hct hmk hcti han
 (try simp -implicitDefEqProofs only [kR_e, kQ_e, push_cast, Nat.reduceBEq, Nat.reduceAdd, Nat.reduceSub, Nat.reduceMul, Nat.reduceLT, Nat.reduceLeDiff, Nat.reduceEqDiff, reduceIte, Bool.not_true, Bool.not_false, true_and, and_true, Option.map_some, Option.bind_some, Int.toNat_natCast, and_4 hm8, han, htx, hct])
 have m2' : ∀ {x y z u : Kx.Item} {L : List Kx.Item}, y ∈ x :: y :: z :: u :: L := .tail _ (.head _)
 have hi7 : I64 n0 ∧ I64 (n0 + n1) ∧ I64 n2 ∧ I64 n3 ∧ I64 n4 ∧ I64 n5 ∧ I64 n6 := ⟨hni _ (by simp), by unfold I64; omega, hni _ (by simp), hni _ (by simp), hni _ (by simp), hni _ (by simp), hni _ (by simp)⟩
 -- how many records
 (intros; try refine go_st ?_); refine go_r 90 92 (by decide) ?_; (refine sJ c67r15.eq_1 ?_; try with_reducible exact True.intro)
 refine .inl ⟨_, _, rfl, ?_⟩
 refine (number_ok l ((p : Int) + 1) true b1 b3 b4 _ G1 hl1 h1 _ []).mono ?_
 rintro r h' ⟨G', L', rfl, -, rfl, rfl, rfl⟩
 have hvok := @getV_ok l ((p : Int) + 1)
 generalize getV l ((p : Int) + 1) = v at hb3 hvok
 (refine sI ?_; try with_reducible exact True.intro)
 have hbad : ∀ (fr : List Td) (e : Env) (a : Int) (ok : Bool), parseB 15 l = none → e 3 = .pointer (some ⟨b3, 0, none⟩) → go none Try.prog 155 v67.1 v67.2 (retQ o67 fun v h => ParseR 15 l h.G v) (Td.s ((SC.reg false c67r17).seq .ret) :: fr) e ⟨G1, [.blk b4 [.int .i64 a], .blk b3 [.bool ok], .blk b6 (numC [n0, n1, n2, n3, n4, n5, n6]), .reg 2 [.int .i64 n0, .int .i64 (n0 + n1), .int .i64 n2, .int .i64 n3, .int .i64 n4, .int .i64 n5, .int .i64 n6, .bool tx, .int .i64 ct, .slice none 0 0]], []⟩ := fun fr e a ok hx e3 => by
   refine go_keep [3] ?_
   (refine sJ @e3 ?_; try with_reducible exact True.intro)
   (intros; try refine go_st ?_); refine go_r 102 103 (by decide) ?_; (refine sJ c67r17.eq_1 ?_; try with_reducible exact True.intro)
   refine stX_blk [_] [_, _] rfl (by simp) ⟨rfl, rfl⟩ ?_
   (refine sI ?_; try with_reducible exact True.intro)
   (intros; try refine go_st ?_)
   refine go_ghost (ghost_sub (L' := [.blk b3 [.bool false], .reg 2 [.int .i64 0, .int .i64 0, .int .i64 0, .int .i64 0, .int .i64 0, .int .i64 0, .int .i64 0, .bool false, .int .i64 0, .slice none 0 0]]) (.cons _ (.cons_cons _ (.cons _ (List.Sublist.refl _))))) ?_
   refine go_ret (retQ_v (out := [.agg #[.int .i64 0, .int .i64 0, .int .i64 0, .int .i64 0, .int .i64 0, .int .i64 0, .int .i64 0, .bool false, .int .i64 0, .slice none 0 0], .bool false]) ?_ ?_)
   · simp [o67, resV, Kx.getR, getB, blkO, ldC, Env.set]
   · exact ⟨_, _, false, rfl, BE.zero, hx⟩
 (repeat (with_reducible intro _)); try refine go_seq ?_
 refine go_cut (fun e h => (v.2.2 = 0 ∧ 0 ≤ v.1 ∧ v.1 ≤ 16) ∧ (e 1 = .pointer (some ⟨b1, 0, none⟩) ∧ e 3 = .pointer (some ⟨b3, 0, none⟩) ∧ e 4 = .pointer (some ⟨b4, 0, none⟩) ∧ e 5 = .func (.func 85) #[] #[.pointer (some ⟨b1, 0, none⟩), .pointer (some ⟨b4, 0, none⟩), .pointer (some ⟨b3, 0, none⟩)]) ∧ e 9 = .int .i64 v.1 ∧ h = ⟨G1, [.blk b4 [.int .i64 v.2.1], .blk b3 [.bool true], .blk b6 (numC [n0, n1, n2, n3, n4, n5, n6]), .reg 2 [.int .i64 n0, .int .i64 (n0 + n1), .int .i64 n2, .int .i64 n3, .int .i64 n4, .int .i64 n5, .int .i64 n6, .bool tx, .int .i64 ct, .slice none 0 0]], []⟩) ?_ ?_
 · by_cases hv0 : v.2.2 = 0
   · have hbn : ¬ (0 ≤ v.1 ∧ v.1 ≤ 16) → parseB 15 l = none := fun h => by rw [hb3, parse3, if_neg fun hc => h hc.2]
     rw [if_pos hv0, if_pos hv0, if_pos hv0]
     (intros; try refine go_st ?_); refine go_r 92 101 (by decide) ?_; (refine sJ c67r16.eq_1 ?_; try with_reducible exact True.intro)
     refine ⟨_, ldN_blk m2' rfl, ?_⟩
     (refine sI ?_; try with_reducible exact True.intro)
     refine gd (fun k1 => ?_) (fun k1 => ?_)
     · have k1 := of_decide_eq_true k1
       (refine sI ?_; try with_reducible exact True.intro)
       (intros; try refine go_st ?_); refine go_c ?_; (refine sI ?_; try with_reducible exact True.intro)
       exact hbad _ _ _ _ (hbn fun h => by omega) (eE)
     have k1 := of_decide_eq_false k1
     (refine sI ?_; try with_reducible exact True.intro)
     (intros; try refine go_st ?_); refine go_c ?_; (refine sI ?_; try with_reducible exact True.intro)
     refine gb (fun k2 => ?_) (fun k2 => ?_)
     · have k2 := of_decide_eq_true k2
       exact hbad _ _ _ _ (hbn fun h => by omega) (eE)
     have k2 := of_decide_eq_false k2
     (intros; try refine go_st ?_)
     exact go_l ⟨⟨hv0, by omega, by omega⟩, ⟨eE, eE, eE, eE⟩, eE, rfl⟩
   · rw [if_neg hv0, if_neg hv0, if_neg hv0]
     (intros; try refine go_st ?_); refine go_r 92 101 (by decide) ?_; (refine sJ c67r16.eq_1 ?_; try with_reducible exact True.intro)
     refine ⟨_, ldN_blk m2' rfl, ?_⟩
     (refine sI ?_; try with_reducible exact True.intro)
     (intros; try refine go_st ?_); refine go_c ?_; (refine sI ?_; try with_reducible exact True.intro)
     exact hbad _ _ _ _ (by rw [hb3, parse3, if_neg fun hc => hv0 hc.1]) (eE)
 clear hbad
 rintro e h ⟨⟨hv0, hv1, hv2⟩, ⟨e1, e3, e4, e5⟩, e9, rfl⟩
 obtain ⟨many, hmany⟩ : ∃ n : Nat, v.1 = n := ⟨v.1.toNat, by omega⟩
 obtain ⟨pv, -, hv21, -, hpv, -⟩ := hvok hv0
 rw [hmany] at e9
 have hpn : 0 ≤ v.2.1 := by omega
 have hb4 : parseB 15 l = parse4 l [n0, n1, n2, n3, n4, n5, n6] m many (if 0 < many then getV l v.2.1 else (0, v.2.1, 0)) := by
   rw [hb3, parse3, if_pos ⟨hv0, hv1, hv2⟩, hmany]
   simp only [Int.toNat_natCast]
   congr 1
   by_cases h : 0 < many
   · rw [if_pos h, if_pos (by omega)]
   · rw [if_neg h, if_neg (by omega)]
 refine go_keep [1, 3, 4, 5, 9] ?_
 (refine sJ5 @e1 @e3 @e4 @e5 @e9 ?_; try with_reducible exact True.intro)
 have hmany16 : many ≤ 16 := by omega
 generalize v.2.1 = p2 at hb4 hpn
 clear hb3 hvok hv21 hpv
 (intros; try refine go_st ?_); refine go_r 0 0 (by decide) ?_; (refine sJ c67r18.eq_1 ?_; try with_reducible exact True.intro)
 (repeat (with_reducible intro _)); try refine go_seq ?_
 refine go_cut (fun e h => ∃ (s : Int × Int × Int), (s = (if 0 < many then getV l p2 else (0, p2, 0))) ∧ (e 1 = .pointer (some ⟨b1, 0, none⟩) ∧ e 3 = .pointer (some ⟨b3, 0, none⟩) ∧ e 4 = .pointer (some ⟨b4, 0, none⟩) ∧ e 5 = .func (.func 85) #[] #[.pointer (some ⟨b1, 0, none⟩), .pointer (some ⟨b4, 0, none⟩), .pointer (some ⟨b3, 0, none⟩)]) ∧ e 9 = .int .i64 (many : Int) ∧ e 10 = .int .i64 (if s.2.2 = 0 then s.1 else 0) ∧ h = ⟨G1, [.blk b4 [.int .i64 (if s.2.2 = 0 then s.2.1 else p2)], .blk b3 [.bool (if s.2.2 = 0 then true else false)], .blk b6 (numC [n0, n1, n2, n3, n4, n5, n6]), .reg 2 [.int .i64 n0, .int .i64 (n0 + n1), .int .i64 n2, .int .i64 n3, .int .i64 n4, .int .i64 n5, .int .i64 n6, .bool tx, .int .i64 ct, .slice none 0 0]], []⟩) ?_ ?_
 · (intros; try refine go_st ?_); refine go_r 103 104 (by decide) ?_; (refine sJ c67r19.eq_1 ?_; try with_reducible exact True.intro)
   (intros; try refine go_st ?_); refine go_c ?_; (refine sI ?_; try with_reducible exact True.intro)
   refine gb (fun k1 => ?_) (fun k1 => ?_)
   · have k1 := of_decide_eq_true k1
     (intros; try refine go_st ?_); refine go_r 105 107 (by decide) ?_; (refine sJ c67r20.eq_1 ?_; try with_reducible exact True.intro)
     refine .inl ⟨_, _, rfl, ?_⟩
     refine (number_ok l p2 true b1 b3 b4 _ G1 hl1 h1 _ []).mono ?_
     rintro r h' ⟨G', L', rfl, -, rfl, rfl, rfl⟩
     (refine sI ?_; try with_reducible exact True.intro)
     (intros; try refine go_st ?_)
     exact go_l ⟨getV l p2, by rw [if_pos (by omega)], ⟨eE, eE, eE, eE⟩, eE, eE, rfl⟩
   · have k1 := of_decide_eq_false k1
     (intros; try refine go_st ?_)
     exact go_l ⟨(0, p2, 0), by rw [if_neg (by omega)], ⟨eE, eE, eE, eE⟩, eE, eE, rfl⟩
 rintro e h ⟨s, hs, ⟨e1, e3, e4, e5⟩, e9, e10, rfl⟩
 rw [← hs] at hb4
 have hsn : 0 ≤ s.2.1 := by
   rw [hs]
   split
   · exact getV_nn _ _
   · exact hpn
 clear hs
 refine go_keep [1, 3, 4, 9, 10] ?_
 (refine sJ5 @e1 @e3 @e4 @e9 @e10 ?_; try with_reducible exact True.intro)
 have hb5 : parseB 15 l = if s.2.2 = 0 then (recsG l n0 s.1 s.2.1.toNat many).bind fun r => if r.2 = l.length ∧ stOk r.1 s.1 = true then some (mkB [n0, n1, n2, n3, n4, n5, n6] m r.1) else none else none := hb4
 clear hb4
 obtain ⟨st, hst⟩ : ∃ st, st = (if s.2.2 = 0 then s.1 else 0) := ⟨_, rfl⟩
 rw [← hst]
 (intros; try refine go_st ?_); refine go_r 0 0 (by decide) ?_; (refine sJ c67r21.eq_1 ?_; try with_reducible exact True.intro)
 (repeat (with_reducible intro _))
 refine go_ghost (ghost_sub (L' := [.blk b4 [.int .i64 (if s.2.2 = 0 then s.2.1 else p2)], .blk b3 [.bool (if s.2.2 = 0 then true else false)], .reg 2 [.int .i64 n0, .int .i64 (n0 + n1), .int .i64 n2, .int .i64 n3, .int .i64 n4, .int .i64 n5, .int .i64 n6, .bool tx, .int .i64 ct, .slice none 0 0]]) (.cons_cons _ (.cons_cons _ (.cons _ (List.Sublist.refl _))))) ?_
 refine go_ghost (ghost_nil none 49 5) ?_
 refine go_cut (fun e h => ∃ (rs : List Rec) (a : Int) (ok : Bool) (u : Value) (zc : List Value) (G' : Nat → Option Obj), ((ok = true ∧ s.2.2 = 0 ∧ recsG l n0 s.1 s.2.1.toNat many = some (rs, a.toNat) ∧ 0 ≤ a ∧ stOk rs s.1 = true) ∨ (ok = false ∧ parseB 15 l = none)) ∧ (rs.length ≤ 16 ∧ Gle G1 G' ∧ Cells RR 5 rs zc) ∧
   (e 1 = .pointer (some ⟨b1, 0, none⟩) ∧ e 3 = .pointer (some ⟨b3, 0, none⟩) ∧ e 4 = .pointer (some ⟨b4, 0, none⟩)) ∧ h = ⟨G', [.row u 49 5 rs.length zc, .blk b4 [.int .i64 a], .blk b3 [.bool ok], .reg 2 [.int .i64 n0, .int .i64 (n0 + n1), .int .i64 n2, .int .i64 n3, .int .i64 n4, .int .i64 n5, .int .i64 n6, .bool tx, .int .i64 ct, u]], []⟩) ?_ ?_
 · (intros; try refine go_st ?_)
   refine go_loop (fun e h => ∃ (k : Nat) (rs : List Rec) (a : Int) (ok : Bool) (u : Value) (zc : List Value) (G' : Nat → Option Obj), (k ≤ many ∧ rs.length = k ∧ Gle G1 G' ∧ Cells RR 5 rs zc ∧ ((ok = true ∧ s.2.2 = 0 ∧ recsG l n0 s.1 s.2.1.toNat k = some (rs, a.toNat) ∧ 0 ≤ a ∧ stOk rs s.1 = true) ∨ (ok = false ∧ parseB 15 l = none))) ∧
     e 1 = .pointer (some ⟨b1, 0, none⟩) ∧ e 3 = .pointer (some ⟨b3, 0, none⟩) ∧ e 4 = .pointer (some ⟨b4, 0, none⟩) ∧ e 9 = .int .i64 (many : Int) ∧ e 10 = .int .i64 st ∧ e 11 = .int .i64 k ∧ h.G = G' ∧ h.D = [] ∧ [.row u 49 5 rs.length zc, .blk b4 [.int .i64 a], .blk b3 [.bool ok], .reg 2 [.int .i64 n0, .int .i64 (n0 + n1), .int .i64 n2, .int .i64 n3, .int .i64 n4, .int .i64 n5, .int .i64 n6, .bool tx, .int .i64 ct, u]].Sublist h.L) (fun e h => many - iv (e 11)) ?_ ?_
   · refine ⟨0, [], _, _, _, [], G1, ⟨Nat.zero_le _, rfl, .refl _, .nil, ?_⟩, eE, eE, eE, eE, eE, eE, rfl, rfl, List.Sublist.refl _⟩
     by_cases h : s.2.2 = 0
     · rw [if_pos h, if_pos h]
       exact .inl ⟨rfl, h, rfl, hsn, rfl⟩
     · rw [if_neg h, if_neg h]
       exact .inr ⟨rfl, by rw [hb5, if_neg h]⟩
   · rintro e ⟨G', L, D⟩ ⟨k, rs, a, ok, u, zc, G2, ⟨hk, hrl, hgg, hcs, hor⟩, e1, e3, e4, e9, e10, e11, hG, hD, hL⟩
     dsimp only at hG hD hL
     subst hG hD
     refine go_ghost (ghost_sub hL) ?_
     refine go_keep [1, 3, 4, 9, 10, 11] ?_
     (refine sJ6 @e1 @e3 @e4 @e9 @e10 @e11 ?_; try with_reducible exact True.intro)
     (intros; try refine go_st ?_); refine go_r 107 112 (by decide) ?_; (refine sJ c67r22.eq_1 ?_; try with_reducible exact True.intro)
     refine gd (fun k1 => ?_) (fun k1 => ?_)
     rotate_left
     · have k1 : k = many := by have := of_decide_eq_false k1; omega
       subst k1
       (refine sI ?_; try with_reducible exact True.intro)
       (intros; try refine go_st ?_); refine go_c ?_; (refine sI ?_; try with_reducible exact True.intro)
       refine go_exit ?_
       (refine sI ?_; try with_reducible exact True.intro)
       exact go_l ⟨rs, a, ok, u, zc, G', hor, ⟨by omega, hgg, hcs⟩, ⟨eE, eE, eE⟩, rfl⟩
     have k1 : k < many := by have := of_decide_eq_true k1; omega
     (refine sI ?_; try with_reducible exact True.intro)
     refine ⟨_, ldN_blk (.tail _ (.tail _ (.head _))) rfl, ?_⟩
     (refine sI ?_; try with_reducible exact True.intro)
     (intros; try refine go_st ?_); refine go_c ?_; (refine sI ?_; try with_reducible exact True.intro)
     refine gb (fun k2 => ?_) (fun k2 => ?_)
     rotate_left
     · rcases hor with ⟨h, -⟩ | ⟨_, h⟩
       · rw [h] at k2; cases k2
       refine go_exit ?_
       (refine sI ?_; try with_reducible exact True.intro)
       exact go_l ⟨rs, a, ok, u, zc, G', .inr ⟨k2, h⟩, ⟨by omega, hgg, hcs⟩, ⟨eE, eE, eE⟩, rfl⟩
     subst k2
     rcases hor with ⟨-, hs0, hrg, ha, hso⟩ | ⟨h, _⟩
     rotate_left
     · cases h
     rw [if_pos hs0] at hst
     subst hst
     have hw := inc_i k many k1 (by unfold maxLen; omega)
     obtain ⟨pa, rfl⟩ : ∃ n : Nat, a = n := ⟨a.toNat, by omega⟩
     rw [Int.toNat_natCast] at hrg
     have hrec := RGet_ok l pa n0 s.1 _ G' (SB.le hl1 hgg)
     have hrr := getR_RR l pa n0 s.1
     have hnxt : recsG l n0 s.1 s.2.1.toNat (k + 1) = if (getR l pa n0 s.1).2.2 = 0 then some (rs ++ [(getR l pa n0 s.1).1], (getR l pa n0 s.1).2.1.toNat) else none := by
       rw [recsG, hrg]
       rfl
     have hnn := getR_nn l pa n0 s.1
     generalize getR l pa n0 s.1 = q at hrec hrr hnxt hnn
     obtain ⟨r, nx, er⟩ := q
     dsimp only at hrr hnxt hrec hnn
     have hrr0 := hrr.1
     unfold cellR at hrec hrr
     (repeat first | (with_reducible intro _) | refine go_skip ?_ | refine go_b ?_)
     (intros; try refine go_st ?_); refine go_r 115 125 (by decide) ?_; (refine sJ c67r23.eq_1 ?_; try with_reducible exact True.intro)
     refine ⟨_, ⟨_, rfl, .g (cellG_le hgg h1)⟩, ?_⟩
     (refine sI ?_; try with_reducible exact True.intro)
     refine ⟨_, ldN_blk (.tail _ (.head _)) rfl, ?_⟩
     (refine sI ?_; try with_reducible exact True.intro)
     refine (hrec _ _).mono ?_
     rintro r h' ⟨rfl, rfl⟩
     (refine sI ?_; try with_reducible exact True.intro)
     (repeat (with_reducible intro _)); try refine go_seq ?_
     refine go_cut (fun e h => (e 1 = .pointer (some ⟨b1, 0, none⟩) ∧ e 3 = .pointer (some ⟨b3, 0, none⟩) ∧ e 4 = .pointer (some ⟨b4, 0, none⟩)) ∧ (e 9 = .int .i64 (many : Int) ∧ e 10 = .int .i64 s.1 ∧ e 11 = .int .i64 k ∧ e 13 = .int .i64 nx) ∧ h = ⟨G', [.reg 12 [.int .i64 r.off, .string r.key, .string r.val, .bool r.dead, .int .i64 r.stamp], .row u 49 5 rs.length zc, .blk b4 [.int .i64 (pa : Int)], .blk b3 [.bool (decide (er = 0) && (decide (0 < k) || decide (r.stamp = s.1)))], .reg 2 [.int .i64 n0, .int .i64 (n0 + n1), .int .i64 n2, .int .i64 n3, .int .i64 n4, .int .i64 n5, .int .i64 n6, .bool tx, .int .i64 ct, u]], []⟩) ?_ ?_
     · (intros; try refine go_st ?_); refine go_r 125 140 (by decide) ?_; (refine sJ c67r24.eq_1 ?_; try with_reducible exact True.intro)
       refine ⟨_, ldN_blk (.tail _ (.tail _ (.tail _ (.head _)))) rfl, ?_⟩
       (refine sI ?_; try with_reducible exact True.intro)
       refine gd (fun k2 => ?_) (fun k2 => ?_)
       · have k3 := of_decide_eq_true k2
         (refine sI ?_; try with_reducible exact True.intro)
         refine gd (fun k4 => ?_) (fun k4 => ?_)
         · have k5 := of_decide_eq_true k4
           (refine sI ?_; try with_reducible exact True.intro)
           refine stX_blk [_, _, _] [_] rfl (by simp) ⟨rfl, rfl⟩ ?_
           (refine sI ?_; try with_reducible exact True.intro)
           (intros; try refine go_st ?_)
           refine go_l ⟨⟨eE, eE, eE⟩, ⟨eE, eE, eE, eE⟩, ?_⟩
           rw [decide_eq_true k3, decide_eq_true (show 0 < k by omega)]
           rfl
         · have k5 := of_decide_eq_false k4
           (refine sI ?_; try with_reducible exact True.intro)
           refine stX_blk [_, _, _] [_] rfl (by simp) ⟨rfl, rfl⟩ ?_
           (refine sI ?_; try with_reducible exact True.intro)
           (intros; try refine go_st ?_)
           refine go_l ⟨⟨eE, eE, eE⟩, ⟨eE, eE, eE, eE⟩, ?_⟩
           rw [decide_eq_true k3, decide_eq_false (show ¬ 0 < k by omega)]
           rfl
       · have k3 := of_decide_eq_false k2
         (refine sI ?_; try with_reducible exact True.intro)
         refine stX_blk [_, _, _] [_] rfl (by simp) ⟨rfl, rfl⟩ ?_
         (refine sI ?_; try with_reducible exact True.intro)
         (intros; try refine go_st ?_)
         refine go_l ⟨⟨eE, eE, eE⟩, ⟨eE, eE, eE, eE⟩, ?_⟩
         rw [decide_eq_false k3]
         rfl
     rintro e h ⟨⟨e1, e3, e4⟩, ⟨e9, e10, e11, e13⟩, rfl⟩
     refine go_keep [1, 3, 4, 9, 10, 11, 13] ?_
     (refine sJ7 @e1 @e3 @e4 @e9 @e10 @e11 @e13 ?_; try with_reducible exact True.intro)
     have hok : ∀ (j : Nat), j = k → ((decide (er = 0) && (decide (0 < k) || decide (r.stamp = s.1))) = true ∧ s.2.2 = 0 ∧ recsG l n0 s.1 s.2.1.toNat (k + 1) = some (rs ++ [r], nx.toNat) ∧ 0 ≤ nx ∧ stOk (rs ++ [r]) s.1 = true) ∨ ((decide (er = 0) && (decide (0 < k) || decide (r.stamp = s.1))) = false ∧ parseB 15 l = none) := fun j _ => by
       by_cases h0 : er = 0
       · rw [if_pos h0] at hnxt
         by_cases h1 : 0 < k
         · refine .inl ⟨by simp [h0, h1], hs0, hnxt, hnn, ?_⟩
           match rs, hrl, hso with
           | x :: xs, _, hso => exact hso
           | [], hrl, _ => simp at hrl; omega
         · have hk0 : k = 0 := by omega
           have hrs : rs = [] := List.eq_nil_of_length_eq_zero (by omega)
           subst hrs
           by_cases h2 : r.stamp = s.1
           · refine .inl ⟨by simp [h0, h2], hs0, hnxt, hnn, by simp [stOk, h2]⟩
           · refine .inr ⟨by simp [h0, h1, h2], ?_⟩
             rw [hb5, if_pos hs0]
             cases hrm : recsG l n0 s.1 s.2.1.toNat many with
             | none => rfl
             | some q =>
               simp only [Option.bind_some]
               have hpre := recsG_pre hrm (k + 1) (by omega)
               rw [hnxt] at hpre
               obtain ⟨q2, hq, t, ht⟩ := hpre
               cases hq
               refine if_neg fun hc => ?_
               rw [ht] at hc
               have := hc.2
               simp [stOk, h2] at this
       · rw [if_neg h0] at hnxt
         refine .inr ⟨by simp [h0], ?_⟩
         have := recsG_none (many - (k + 1)) (k + 1) hnxt
         rw [show k + 1 + (many - (k + 1)) = many by omega] at this
         rw [hb5, if_pos hs0, this]
         rfl
     have hok := hok k rfl
     generalize (decide (er = 0) && (decide (0 < k) || decide (r.stamp = s.1))) = ok at hok ⊢
     (intros; try refine go_st ?_); refine go_r 140 141 (by decide) ?_; (refine sJ c67r25.eq_1 ?_; try with_reducible exact True.intro)
     refine stX_blk [_, _] [_, _] rfl (by simp) ⟨rfl, rfl⟩ ?_
     (refine sI ?_; try with_reducible exact True.intro)
     (intros; try refine go_st ?_); refine go_r 142 146 (by decide) ?_; (refine sJ c67r26.eq_1 ?_; try with_reducible exact True.intro)
     intro bk hbk
     refine app1 (L1 := [_]) (L2 := [_, _, _]) (E := RR) (x := r) rfl hrr rfl (by simp [Value.oneCell']) hcs (by omega) (by omega) fun A' c' zc' hzc => ?_
     (refine sI ?_; try with_reducible exact True.intro)
     (intros; try refine go_st ?_); refine go_r 113 115 (by decide) ?_; (refine sJ2 c67r27.eq_1 @hw ?_; try with_reducible exact True.intro)
     (intros; try refine go_st ?_)
     refine go_l ⟨⟨k + 1, rs ++ [r], nx, ok, _, zc', G', ⟨by omega, by simp [hrl], hgg, hzc, hok⟩, eE, eE, eE, eE, eE, eE, rfl, rfl, .cons _ (.cons _ (List.Sublist.refl _))⟩, ?_⟩
     (refine sI ?_; try with_reducible exact True.intro)
     omega
 rintro e h ⟨rs, a, ok, u, zc, G', hor, ⟨hrl, hgg, hcs⟩, ⟨e1, e3, e4⟩, rfl⟩
 refine go_keep [1, 3, 4] ?_
 (refine sJ3 @e1 @e3 @e4 ?_; try with_reducible exact True.intro)
 (repeat (with_reducible intro _))
 refine go_gx (gx_slv_at [] _ (by decide) hcs) ?_
 rintro h' ⟨G2, rfl, hg2, B, d, rfl, hd1, hd2, hB⟩
 refine go_ghost (ghost_perm (.swap _ _ _)) ?_
 have h12 := cellG_le (hgg.trans hg2) h1
 have hfin : ∀ (t : Bool), (if t = true then parseB 15 l = some ⟨n0, n0 + n1, n2, n3, n4, n5, n6, tx, ct, rs⟩ else parseB 15 l = none) → ParseR 15 l G2 (.tuple #[.agg #[.int .i64 n0, .int .i64 (n0 + n1), .int .i64 n2, .int .i64 n3, .int .i64 n4, .int .i64 n5, .int .i64 n6, .bool tx, .int .i64 ct, .slice B rs.length d], .bool t]) := fun t ht =>
   ⟨⟨n0, n0 + n1, n2, n3, n4, n5, n6, tx, ct, rs⟩, _, t, rfl, ⟨B, d, rfl, ⟨hd1, hd2, hB⟩, hi7.1, hi7.2.1, hi7.2.2.1, hi7.2.2.2.1, hi7.2.2.2.2.1, hi7.2.2.2.2.2.1, hi7.2.2.2.2.2.2, hcti⟩, ht⟩
 rcases hor with ⟨rfl, hs0, hrg, ha, hso⟩ | ⟨rfl, hno⟩
 · (intros; try refine go_st ?_); refine go_w _ (List.Sublist.refl _) (by decide) ?_; (refine sJ c67r28.eq_1 ?_; try with_reducible exact True.intro)
   refine ⟨_, ldN_blk (.head _) rfl, ?_⟩
   (refine sI ?_; try with_reducible exact True.intro)
   refine ⟨_, ldN_blk (.tail _ (.head _)) rfl, ?_⟩
   (refine sI ?_; try with_reducible exact True.intro)
   refine ⟨_, ⟨_, rfl, .g h12⟩, ?_⟩
   (refine sI ?_; try with_reducible exact True.intro)
   refine stX_blk [] [_, _] rfl (by simp) ⟨rfl, rfl⟩ ?_
   (refine sI ?_; try with_reducible exact True.intro)
   (intros; try refine go_st ?_)
   refine go_ret (retQ_v (out := [.agg #[.int .i64 n0, .int .i64 (n0 + n1), .int .i64 n2, .int .i64 n3, .int .i64 n4, .int .i64 n5, .int .i64 n6, .bool tx, .int .i64 ct, .slice B rs.length d], .bool (decide (a = (l.length : Int)))]) ?_ ?_)
   · simp [o67, resV, Kx.getR, getB, blkO, ldC, Env.set]
   · refine hfin _ ?_
     rw [hb5, if_pos hs0, hrg]
     simp only [Option.bind_some]
     by_cases h : a = (l.length : Int)
     · rw [if_pos (decide_eq_true h), if_pos ⟨by omega, hso⟩, hmk]
     · rw [if_neg (by simpa using h), if_neg (fun hc => h (by omega))]
 · (intros; try refine go_st ?_); refine go_w _ (List.Sublist.refl _) (by decide) ?_; (refine sJ c67r28.eq_1 ?_; try with_reducible exact True.intro)
   refine ⟨_, ldN_blk (.head _) rfl, ?_⟩
   (refine sI ?_; try with_reducible exact True.intro)
   refine stX_blk [] [_, _] rfl (by simp) ⟨rfl, rfl⟩ ?_
   (refine sI ?_; try with_reducible exact True.intro)
   (intros; try refine go_st ?_)
   refine go_ret (retQ_v (out := [.agg #[.int .i64 n0, .int .i64 (n0 + n1), .int .i64 n2, .int .i64 n3, .int .i64 n4, .int .i64 n5, .int .i64 n6, .bool tx, .int .i64 ct, .slice B rs.length d], .bool false]) ?_ ?_)
   · simp [o67, resV, Kx.getR, getB, blkO, ldC, Env.set]
   · exact hfin false hno
theorem F71 : Fun Try.prog 71 171 v71 c71 o71 := Fun.mk' Try.func71 Try.ntmps71 (by kernel_rfl) (by kernel_rfl) s71 q71
theorem getN_1n {l : List UInt8} {p : Nat} (h : l[p]? = none) : getN l (p : Int) 1 = (0, 10) := by
 have := List.getElem?_eq_none_iff.1 h
 rw [getN_nat, if_pos (by simp; omega)]
theorem getN_1s {l : List UInt8} {p : Nat} {m : UInt8} (h : l[p]? = some m) : getN l (p : Int) 1 = (m.toNat, 0) := by
 have h2 := List.getElem?_eq_some_iff.1 h
 have h3 := h2.1
 rw [getN_nat, if_neg (by simp; omega), List.drop_eq_getElem_cons h2.1, h2.2]
 simp [numB]
set_option maxHeartbeats 2000000 in
theorem body_ok (l : List UInt8) (v : Value) (G : Nat → Option Obj) (hl : SB G v l) (hb : l.length ≤ 1000000) : FnD Try.prog 71 #[v] G (ParseR 16 l) := by
 refine F71.fnD (by simp) (go_of ?_)
 have hl00 := hl
 obtain ⟨A, c, rfl, hc, hm, hA⟩ := hl
 unfold c71
 (intros; try refine go_st ?_); refine go_r 0 0 (by decide) ?_; (refine sJ c71r0.eq_1 ?_; try with_reducible exact True.intro)
 (intros; try refine go_st ?_); refine go_r 0 0 (by decide) ?_; (refine sJ c71r1.eq_1 ?_; try with_reducible exact True.intro)
 (intros; try refine go_st ?_); refine go_r 0 0 (by decide) ?_; (refine sJ c71r2.eq_1 ?_; try with_reducible exact True.intro)
 (intros; try refine go_st ?_); refine go_r 21 22 (by decide) ?_; (refine sJ c71r3.eq_1 ?_; try with_reducible exact True.intro)
 intro b6 hb6
 (refine sI ?_; try with_reducible exact True.intro)
 refine stX_blk [] [_, _] rfl (by simp) ⟨rfl, rfl⟩ ?_
 (refine sI ?_; try with_reducible exact True.intro)
 (intros; try refine go_st ?_); refine go_r 0 0 (by decide) ?_; (refine sJ c71r4.eq_1 ?_; try with_reducible exact True.intro)
 (repeat (with_reducible intro _))
 refine go_cut (fun e h => ∃ (ns : List Int) (p : Nat), (ns.length = 7 ∧ (∀ z ∈ ns, I64 z) ∧ nums l 7 = some (ns, p)) ∧
   (e 0 = .slice A l.length c ∧ e 5 = .int .i64 (p : Int) ∧ e 6 = .pointer (some ⟨b6, 0, none⟩)) ∧ h = ⟨G, [.blk b6 (numC ns), .reg 4 [.int .i64 0, .int .i64 0, .int .i64 0, .int .i64 0, .int .i64 0, .int .i64 0, .int .i64 0, .bool false, .int .i64 0, .slice none 0 0], .reg 2 [.int .i64 0, .int .i64 0, .int .i64 0, .int .i64 0, .int .i64 0, .int .i64 0, .int .i64 0, .bool false, .int .i64 0, .slice none 0 0]], []⟩) ?_ ?_
 · (intros; try refine go_st ?_)
   refine go_loop (fun e h => ∃ (k : Nat) (zs : List Int) (p : Nat), (k ≤ 7 ∧ zs.length = 7 ∧ (∀ z ∈ zs, I64 z) ∧ nums l k = some (zs.take k, p)) ∧ e 22 = .int .i64 k ∧
     e 0 = .slice A l.length c ∧ e 5 = .int .i64 (p : Int) ∧ e 6 = .pointer (some ⟨b6, 0, none⟩) ∧ h = ⟨G, [.blk b6 (numC zs), .reg 4 [.int .i64 0, .int .i64 0, .int .i64 0, .int .i64 0, .int .i64 0, .int .i64 0, .int .i64 0, .bool false, .int .i64 0, .slice none 0 0], .reg 2 [.int .i64 0, .int .i64 0, .int .i64 0, .int .i64 0, .int .i64 0, .int .i64 0, .int .i64 0, .bool false, .int .i64 0, .slice none 0 0]], []⟩) (fun e h => 7 - iv (e 22)) ?_ ?_
   · exact ⟨0, [0, 0, 0, 0, 0, 0, 0], 0, ⟨Nat.zero_le _, rfl, by decide, rfl⟩, eE, eE, eE, eE, rfl⟩
   · rintro e h ⟨k, zs, p, ⟨hk, hzl, hzi, hn⟩, e22, e0, e5, e6, rfl⟩
     refine go_keep [0, 5, 6, 22] ?_
     (refine sJ4 @e0 @e5 @e6 @e22 ?_; try with_reducible exact True.intro)
     (intros; try refine go_st ?_); refine go_r 0 0 (by decide) ?_; (refine sJ c71r5.eq_1 ?_; try with_reducible exact True.intro)
     (intros; try refine go_st ?_); refine go_c ?_; (refine sI ?_; try with_reducible exact True.intro)
     refine gb (fun ht => ?_) (fun ht => ?_)
     · have hk7 : k < 7 := by have := of_decide_eq_true ht; omega
       have hw := inc_i k 7 hk7 (by unfold maxLen; omega)
       have hgv := RGetVar_ok l p _ G hl00
       have hnx : nums l (k + 1) = if (getV l p).2.2 = 0 then some (zs.take k ++ [(getV l p).1], (getV l p).2.1.toNat) else none := by
         rw [nums, hn]
         rfl
       have hi := @getV_ok l p
       have hnn := getV_nn l p
       generalize getV l p = q at hgv hnx hi hnn
       obtain ⟨x, nx, er⟩ := q
       dsimp only at hgv hnx hnn
       (repeat first | (with_reducible intro _) | refine go_skip ?_ | refine go_b ?_)
       (intros; try refine go_st ?_); refine go_r 24 25 (by decide) ?_; (refine sJ c71r6.eq_1 ?_; try with_reducible exact True.intro)
       (intros; try refine go_st ?_); refine go_r 25 32 (by decide) ?_; (refine sJ c71r7.eq_1 ?_; try with_reducible exact True.intro)
       refine (hgv _ _).mono ?_; rintro _ _ ⟨rfl, rfl⟩; (refine sI ?_; try with_reducible exact True.intro)
       (intros; try refine go_st ?_); refine go_r 32 33 (by decide) ?_; (refine sJ c71r8.eq_1 ?_; try with_reducible exact True.intro)
       (intros; try refine go_st ?_); refine go_c ?_; (refine sI ?_; try with_reducible exact True.intro)
       refine gb (fun k1 => ?_) (fun k1 => ?_)
       · have k1 := of_decide_eq_true k1
         have hx : parseB 16 l = none := by
           rw [if_neg k1] at hnx
           have := nums_none (7 - (k + 1)) (k + 1) hnx
           rw [show k + 1 + (7 - (k + 1)) = 7 by omega] at this
           rw [parseB, this]
           rfl
         (intros; try refine go_st ?_); refine go_r 34 35 (by decide) ?_; (refine sJ c71r9.eq_1 ?_; try with_reducible exact True.intro)
         (intros; try refine go_st ?_)
         refine go_ret (retQ_v rfl ?_); simp only [push_cast, Nat.reduceBEq]
         exact ⟨_, _, false, rfl, BE.zero, hx⟩
       have k1 : er = 0 := by simpa using k1
       rw [if_pos k1] at hnx
       obtain ⟨_, _, _, _, _, hxi⟩ := hi k1
       obtain ⟨nx, rfl⟩ : ∃ n : Nat, nx = n := ⟨nx.toNat, by omega⟩
       rw [Int.toNat_natCast] at hnx
       (repeat first | (with_reducible intro _) | refine go_skip ?_ | refine go_b ?_)
       (intros; try refine go_st ?_); refine go_r 35 38 (by decide) ?_; (refine sJ c71r10.eq_1 ?_; try with_reducible exact True.intro)
       refine ⟨by omega, ?_⟩
       rw [show 0 + k * 1 = k by omega]
       refine stX_blk [] [_, _] rfl (by simp [numC]; omega) ⟨rfl, rfl⟩ ?_
       simp only [List.nil_append]
       rw [splice_num (by omega)]
       (refine sI ?_; try with_reducible exact True.intro)
       (intros; try refine go_st ?_); refine go_r 38 39 (by decide) ?_; (refine sJ c71r11.eq_1 ?_; try with_reducible exact True.intro)
       (intros; try refine go_st ?_); refine go_r 39 40 (by decide) ?_; (refine sJ2 c71r12.eq_1 @hw ?_; try with_reducible exact True.intro)
       (intros; try refine go_st ?_)
       refine go_l ⟨⟨k + 1, zs.set k x, nx, ⟨by omega, by simp [hzl], fun z hz => ?_, by rw [take_set (by omega)]; exact hnx⟩, eE, eE, eE, eE, rfl⟩, ?_⟩
       · rcases List.mem_or_eq_of_mem_set hz with h | h
         · exact hzi z h
         · rw [h]; exact hxi
       · (refine sI ?_; try with_reducible exact True.intro)
         omega
     · have hk7 : k = 7 := by have := of_decide_eq_false ht; omega
       subst hk7
       rw [List.take_of_length_le (by omega)] at hn
       refine go_exit ?_
       (refine sI ?_; try with_reducible exact True.intro)
       exact go_l ⟨zs, p, ⟨hzl, hzi, hn⟩, ⟨eE, eE, eE⟩, rfl⟩
 rintro e h ⟨ns, p, ⟨hnl, hni, hnum⟩, ⟨e0, e5, e6⟩, rfl⟩
 refine go_keep [0, 5, 6] ?_
 (refine sJ3 @e0 @e5 @e6 ?_; try with_reducible exact True.intro)
 obtain ⟨n0, n1, n2, n3, n4, n5, n6, rfl⟩ : ∃ n0 n1 n2 n3 n4 n5 n6 : Int, ns = [n0, n1, n2, n3, n4, n5, n6] := by
   match ns, hnl with
   | [n0, n1, n2, n3, n4, n5, n6], _ => exact ⟨n0, n1, n2, n3, n4, n5, n6, rfl⟩
 have hb2 : parseB 16 l = parse2 16 l ([n0, n1, n2, n3, n4, n5, n6], p) := by rw [parseB, hnum]; rfl
 have hgn := RNGet_ok l p 1 (by omega) _ G hl00
 have hbad : ∀ (fr : List Td) (e : Env), parseB 16 l = none → go none Try.prog 171 v71.1 v71.2 (retQ o71 fun v h => ParseR 16 l h.G v) (Td.s ((SC.reg false c71r15).seq .ret) :: fr) e ⟨G, [.blk b6 (numC [n0, n1, n2, n3, n4, n5, n6]), .reg 4 [.int .i64 0, .int .i64 0, .int .i64 0, .int .i64 0, .int .i64 0, .int .i64 0, .int .i64 0, .bool false, .int .i64 0, .slice none 0 0], .reg 2 [.int .i64 0, .int .i64 0, .int .i64 0, .int .i64 0, .int .i64 0, .int .i64 0, .int .i64 0, .bool false, .int .i64 0, .slice none 0 0]], []⟩ := fun fr e hx => by
   (intros; try refine go_st ?_); refine go_r 52 53 (by decide) ?_; (refine sJ c71r15.eq_1 ?_; try with_reducible exact True.intro)
   (intros; try refine go_st ?_)
   refine go_ret (retQ_v rfl ?_); simp only [push_cast, Nat.reduceBEq]
   exact ⟨_, _, false, rfl, BE.zero, hx⟩
 have hbad2 : ∀ (fr : List Td) (e : Env), parseB 16 l = none → go none Try.prog 171 v71.1 v71.2 (retQ o71 fun v h => ParseR 16 l h.G v) (Td.s ((SC.reg false c71r18).seq .ret) :: fr) e ⟨G, [.blk b6 (numC [n0, n1, n2, n3, n4, n5, n6]), .reg 4 [.int .i64 0, .int .i64 0, .int .i64 0, .int .i64 0, .int .i64 0, .int .i64 0, .int .i64 0, .bool false, .int .i64 0, .slice none 0 0], .reg 2 [.int .i64 0, .int .i64 0, .int .i64 0, .int .i64 0, .int .i64 0, .int .i64 0, .int .i64 0, .bool false, .int .i64 0, .slice none 0 0]], []⟩ := fun fr e hx => by
   (intros; try refine go_st ?_); refine go_r 91 92 (by decide) ?_; (refine sJ c71r18.eq_1 ?_; try with_reducible exact True.intro)
   (intros; try refine go_st ?_)
   refine go_ret (retQ_v rfl ?_); simp only [push_cast, Nat.reduceBEq]
   exact ⟨_, _, false, rfl, BE.zero, hx⟩
 cases hy : l[p]? with
 | none =>
   rw [getN_1n hy] at hgn
   dsimp only at hgn
   have hx : parseB 16 l = none := by rw [hb2, parse2, hy]; rfl
   (intros; try refine go_st ?_); refine go_r 40 46 (by decide) ?_; (refine sJ c71r13.eq_1 ?_; try with_reducible exact True.intro)
   refine (hgn _ _).mono ?_; rintro _ _ ⟨rfl, rfl⟩; (refine sI ?_; try with_reducible exact True.intro)
   (intros; try refine go_st ?_); refine go_r 46 51 (by decide) ?_; (refine sJ c71r14.eq_1 ?_; try with_reducible exact True.intro)
   refine gd (fun _ => ?_) (fun h => by simp at h)
   (refine sI ?_; try with_reducible exact True.intro)
   (intros; try refine go_st ?_); refine go_c ?_; (refine sI ?_; try with_reducible exact True.intro)
   exact hbad _ _ hx
 | some m =>
 rw [getN_1s hy] at hgn
 dsimp only at hgn
 have hpl := (List.getElem?_eq_some_iff.1 hy).1
 have hml := m.toNat_lt
 unfold maxLen at hm
 have hb3 : parseB 16 l = if m.toNat < 8 ∧ (0 ≤ n0 ∧ n0 ≤ 1099511627776) ∧ (0 ≤ n1 ∧ n1 ≤ 16) then parse3 l [n0, n1, n2, n3, n4, n5, n6] m (getV l ((p : Int) + 1)) else none := by
   rw [hb2, parse2, hy]
   rfl
 clear hb2
 have wp := inc_i p l.length hpl (by unfold maxLen; omega)
 (intros; try refine go_st ?_); refine go_r 40 46 (by decide) ?_; (refine sJ c71r13.eq_1 ?_; try with_reducible exact True.intro)
 refine (hgn _ _).mono ?_; rintro _ _ ⟨rfl, rfl⟩; (refine sI ?_; try with_reducible exact True.intro)
 (intros; try refine go_st ?_); refine go_r 46 51 (by decide) ?_; (refine sJ c71r14.eq_1 ?_; try with_reducible exact True.intro)
 refine gd (fun h => by simp at h) (fun _ => ?_)
 (refine sI ?_; try with_reducible exact True.intro)
 (intros; try refine go_st ?_); refine go_c ?_; (refine sI ?_; try with_reducible exact True.intro)
 refine gb (fun k1 => ?_) (fun k1 => ?_)
 · have k1 := of_decide_eq_true k1
   exact hbad _ _ (by rw [hb3, if_neg (fun h => by omega)])
 have k1 := of_decide_eq_false k1
 clear hbad
 have hgv := RGetVar_ok l ((p : Int) + 1) _ G hl00
 have hi := @getV_ok l ((p : Int) + 1)
 have hnn := getV_nn l ((p : Int) + 1)
 generalize getV l ((p : Int) + 1) = q at hgv hb3 hi hnn
 obtain ⟨x, nx, er⟩ := q
 dsimp only at hgv hnn
 (repeat first | (with_reducible intro _) | refine go_skip ?_ | refine go_b ?_)
 (intros; try refine go_st ?_); refine go_r 53 61 (by decide) ?_; (refine sJ2 c71r16.eq_1 @wp ?_; try with_reducible exact True.intro)
 refine (hgv _ _).mono ?_; rintro _ _ ⟨rfl, rfl⟩; (refine sI ?_; try with_reducible exact True.intro)
 have hf : ¬ ((0 ≤ n0 ∧ n0 ≤ 1099511627776) ∧ (0 ≤ n1 ∧ n1 ≤ 16) ∧ er = 0 ∧ 0 ≤ x ∧ x ≤ 16) → parseB 16 l = none := fun h => by
   rw [hb3]
   split
   · rename_i hc
     exact if_neg fun h2 => h ⟨hc.2.1, hc.2.2, h2⟩
   · rfl
 (intros; try refine go_st ?_); refine go_r 61 90 (by decide) ?_; (refine sJ c71r17.eq_1 ?_; try with_reducible exact True.intro)
 refine gd (fun k2 => ?_) (fun k2 => ?_)
 · have k2 := of_decide_eq_true k2
   (refine sI ?_; try with_reducible exact True.intro)
   (intros; try refine go_st ?_); refine go_c ?_; (refine sI ?_; try with_reducible exact True.intro)
   exact hbad2 _ _ (hf fun h => k2 h.2.2.1)
 have k2 : er = 0 := by simpa using k2
 (refine sI ?_; try with_reducible exact True.intro)
 refine gd (fun k3 => ?_) (fun k3 => ?_)
 · have k3 := of_decide_eq_true k3
   (refine sI ?_; try with_reducible exact True.intro)
   (intros; try refine go_st ?_); refine go_c ?_; (refine sI ?_; try with_reducible exact True.intro)
   exact hbad2 _ _ (hf fun h => by omega)
 have k3 := of_decide_eq_false k3
 (refine sI ?_; try with_reducible exact True.intro)
 refine gd (fun k4 => ?_) (fun k4 => ?_)
 · have k4 := of_decide_eq_true k4
   (refine sI ?_; try with_reducible exact True.intro)
   (intros; try refine go_st ?_); refine go_c ?_; (refine sI ?_; try with_reducible exact True.intro)
   exact hbad2 _ _ (hf fun h => by omega)
 have k4 := of_decide_eq_false k4
 (refine sI ?_; try with_reducible exact True.intro)
 refine ⟨by omega, ?_⟩
 refine ⟨_, ldN_blk (o := 1) (.head _) rfl, ?_⟩
 (refine sI ?_; try with_reducible exact True.intro)
 refine gd (fun k5 => ?_) (fun k5 => ?_)
 · have k5 := of_decide_eq_true k5
   (refine sI ?_; try with_reducible exact True.intro)
   (intros; try refine go_st ?_); refine go_c ?_; (refine sI ?_; try with_reducible exact True.intro)
   exact hbad2 _ _ (hf fun h => by omega)
 have k5 := of_decide_eq_false k5
 (refine sI ?_; try with_reducible exact True.intro)
 refine ⟨by omega, ?_⟩
 refine ⟨_, ldN_blk (o := 1) (.head _) rfl, ?_⟩
 (refine sI ?_; try with_reducible exact True.intro)
 refine gd (fun k6 => ?_) (fun k6 => ?_)
 · have k6 := of_decide_eq_true k6
   (refine sI ?_; try with_reducible exact True.intro)
   (intros; try refine go_st ?_); refine go_c ?_; (refine sI ?_; try with_reducible exact True.intro)
   exact hbad2 _ _ (hf fun h => by omega)
 have k6 := of_decide_eq_false k6
 (refine sI ?_; try with_reducible exact True.intro)
 refine ⟨by omega, ?_⟩
 refine ⟨_, ldN_blk (o := 0) (.head _) rfl, ?_⟩
 (refine sI ?_; try with_reducible exact True.intro)
 refine gd (fun k7 => ?_) (fun k7 => ?_)
 · have k7 := of_decide_eq_true k7
   (refine sI ?_; try with_reducible exact True.intro)
   (intros; try refine go_st ?_); refine go_c ?_; (refine sI ?_; try with_reducible exact True.intro)
   exact hbad2 _ _ (hf fun h => by omega)
 have k7 := of_decide_eq_false k7
 (refine sI ?_; try with_reducible exact True.intro)
 refine ⟨by omega, ?_⟩
 refine ⟨_, ldN_blk (o := 0) (.head _) rfl, ?_⟩
 (refine sI ?_; try with_reducible exact True.intro)
 (intros; try refine go_st ?_); refine go_c ?_; (refine sI ?_; try with_reducible exact True.intro)
 refine gb (fun k8 => ?_) (fun k8 => ?_)
 · have k8 := of_decide_eq_true k8
   exact hbad2 _ _ (hf fun h => by omega)
 have k8 := of_decide_eq_false k8
 clear hbad2 hf
 obtain ⟨many, rfl⟩ : ∃ n : Nat, x = n := ⟨x.toNat, by omega⟩
 have hmany16 : many ≤ 16 := by omega
 obtain ⟨pv, -, hv21, -, hpv, -⟩ := hi k2
 obtain ⟨p2, rfl⟩ : ∃ n : Nat, nx = n := ⟨nx.toNat, by omega⟩
 have hb4 : parseB 16 l = parse4 l [n0, n1, n2, n3, n4, n5, n6] m many (if 0 < many then getV l p2 else (0, (p2 : Int), 0)) := by
   rw [hb3, if_pos ⟨by omega, by omega, by omega⟩, parse3, if_pos ⟨k2, by omega, by omega⟩]
   simp only [Int.toNat_natCast]
   congr 1
   by_cases h : 0 < many
   · rw [if_pos h, if_pos (by omega)]
   · rw [if_neg h, if_neg (by omega)]
 clear hb3 hi hv21 hpv hgv hgn
 have wl : IntKind.i64.wrap (n0 + n1) = n0 + n1 := by rw [w64_id] <;> omega
 have htx : decide ((4 : Int) ≤ (m.toNat : Int)) = decide (4 ≤ m.toNat) := by
   by_cases h : 4 ≤ m.toNat
   · rw [decide_eq_true h, decide_eq_true (by omega)]
   · rw [decide_eq_false h, decide_eq_false (by omega)]
 have hct : IntKind.i64.wrap ((m.toNat % 4 : Nat) : Int) = ((m.toNat % 4 : Nat) : Int) := by rw [w64_id] <;> omega
 have hrm : binV .rem (.int .u64 (m.toNat : Int)) (.int .u64 4) = some (.int .u64 ((m.toNat % 4 : Nat) : Int)) := bin_rem .u64 m.toNat 4 (by decide)
 have hmk : ∀ rs, mkB [n0, n1, n2, n3, n4, n5, n6] m rs = ⟨n0, n0 + n1, n2, n3, n4, n5, n6, decide (4 ≤ m.toNat), ((m.toNat % 4 : Nat) : Int), rs⟩ := fun _ => rfl
 have hcti : I64 ((m.toNat % 4 : Nat) : Int) := by unfold I64; omega
 generalize decide (4 ≤ m.toNat) = tx at htx hmk
 generalize ((m.toNat % 4 : Nat) : Int) = ct at hct hmk hcti hrm
 have hi7 : I64 n0 ∧ I64 (n0 + n1) ∧ I64 n2 ∧ I64 n3 ∧ I64 n4 ∧ I64 n5 ∧ I64 n6 := ⟨hni _ (by simp), by unfold I64; omega, hni _ (by simp), hni _ (by simp), hni _ (by simp), hni _ (by simp), hni _ (by simp)⟩
 (repeat first | (with_reducible intro _) | refine go_skip ?_ | refine go_b ?_)
 (intros; try refine go_st ?_); refine go_r 92 115 (by decide) ?_; (refine sJ c71r19.eq_1 ?_; try with_reducible exact True.intro)
 refine ⟨by omega, ?_⟩
 refine ⟨_, ldN_blk (o := 0) (.head _) rfl, ?_⟩
 (refine sI ?_; try with_reducible exact True.intro)
 refine ⟨by omega, ?_⟩
 refine ⟨_, ldN_blk (o := 0) (.head _) rfl, ?_⟩
 (refine sI ?_; try with_reducible exact True.intro)
 refine ⟨by omega, ?_⟩
 refine ⟨_, ldN_blk (o := 1) (.head _) rfl, ?_⟩
 (refine sJ @wl ?_; try with_reducible exact True.intro)
 refine ⟨by omega, ?_⟩
 refine ⟨_, ldN_blk (o := 2) (.head _) rfl, ?_⟩
 (refine sI ?_; try with_reducible exact True.intro)
 refine ⟨by omega, ?_⟩
 refine ⟨_, ldN_blk (o := 3) (.head _) rfl, ?_⟩
 (refine sI ?_; try with_reducible exact True.intro)
 refine ⟨by omega, ?_⟩
 refine ⟨_, ldN_blk (o := 4) (.head _) rfl, ?_⟩
 (refine sI ?_; try with_reducible exact True.intro)
 refine ⟨by omega, ?_⟩
 refine ⟨_, ldN_blk (o := 5) (.head _) rfl, ?_⟩
 (refine sI ?_; try with_reducible exact True.intro)
 refine ⟨by omega, ?_⟩
 refine ⟨_, ldN_blk (o := 6) (.head _) rfl, ?_⟩
 (try simp -implicitDefEqProofs only [kR_e, kQ_e, push_cast, Nat.reduceBEq, Nat.reduceAdd, Nat.reduceSub, Nat.reduceMul, Nat.reduceLT, Nat.reduceLeDiff, Nat.reduceEqDiff, reduceIte, Bool.not_true, Bool.not_false, true_and, and_true, Option.map_some, Option.bind_some, Int.toNat_natCast, htx, hrm, hct])
 (intros; try refine go_st ?_); refine go_r 0 0 (by decide) ?_; (refine sJ c71r20.eq_1 ?_; try with_reducible exact True.intro)
 have hzero : ∀ (e : Env) (xs : List Value), True := fun _ _ => trivial
 have hout : ∀ {rs : List Rec} {B : Option Addr} {d : Nat} {G2 : Nat → Option Obj} (t : Bool), SlV G2 RR 5 (.slice B rs.length d) rs → (if t = true then parseB 16 l = some ⟨n0, n0 + n1, n2, n3, n4, n5, n6, tx, ct, rs⟩ else parseB 16 l = none) → ParseR 16 l G2 (.tuple #[.agg #[.int .i64 n0, .int .i64 (n0 + n1), .int .i64 n2, .int .i64 n3, .int .i64 n4, .int .i64 n5, .int .i64 n6, .bool tx, .int .i64 ct, .slice B rs.length d], .bool t]) := fun {rs B d G2} t hB ht => by
   obtain ⟨B', d', he, hd1, hd2, hB⟩ := hB
   cases he
   exact ⟨⟨n0, n0 + n1, n2, n3, n4, n5, n6, tx, ct, rs⟩, _, t, rfl, ⟨B, d, rfl, ⟨hd1, hd2, hB⟩, hi7.1, hi7.2.1, hi7.2.2.1, hi7.2.2.2.1, hi7.2.2.2.2.1, hi7.2.2.2.2.2.1, hi7.2.2.2.2.2.2, hcti⟩, ht⟩
 (repeat (with_reducible intro _)); try refine go_seq ?_
 refine go_cut (fun e h => ∃ (s : Int × Int × Int) (p3 : Nat), (s = (if 0 < many then getV l p2 else (0, (p2 : Int), 0)) ∧ s.2.2 = 0 ∧ s.2.1 = p3) ∧ (e 0 = .slice A l.length c ∧ e 5 = .int .i64 (p3 : Int) ∧ e 13 = .int .i64 (many : Int) ∧ e 14 = .int .i64 s.1) ∧
   h = ⟨G, [.blk b6 (numC [n0, n1, n2, n3, n4, n5, n6]), .reg 4 [.int .i64 n0, .int .i64 (n0 + n1), .int .i64 n2, .int .i64 n3, .int .i64 n4, .int .i64 n5, .int .i64 n6, .bool tx, .int .i64 ct, .slice none 0 0], .reg 2 [.int .i64 0, .int .i64 0, .int .i64 0, .int .i64 0, .int .i64 0, .int .i64 0, .int .i64 0, .bool false, .int .i64 0, .slice none 0 0]], []⟩) ?_ ?_
 · (intros; try refine go_st ?_); refine go_r 115 116 (by decide) ?_; (refine sJ c71r21.eq_1 ?_; try with_reducible exact True.intro)
   (intros; try refine go_st ?_); refine go_c ?_; (refine sI ?_; try with_reducible exact True.intro)
   refine gb (fun k1 => ?_) (fun k1 => ?_)
   · have k1 := of_decide_eq_true k1
     rw [if_pos (by omega)] at hb4
     have hgv := RGetVar_ok l p2 _ G hl00
     have hnn := getV_nn l p2
     obtain ⟨s, hs⟩ : ∃ s, s = getV l p2 := ⟨_, rfl⟩
     rw [← hs] at hgv hb4 hnn
     (intros; try refine go_st ?_); refine go_r 117 124 (by decide) ?_; (refine sJ c71r22.eq_1 ?_; try with_reducible exact True.intro)
     refine (hgv _ _).mono ?_; rintro _ _ ⟨rfl, rfl⟩; (refine sI ?_; try with_reducible exact True.intro)
     (intros; try refine go_st ?_); refine go_r 124 125 (by decide) ?_; (refine sJ c71r23.eq_1 ?_; try with_reducible exact True.intro)
     (intros; try refine go_st ?_); refine go_c ?_; (refine sI ?_; try with_reducible exact True.intro)
     refine gb (fun k9 => ?_) (fun k9 => ?_)
     · have k9 := of_decide_eq_true k9
       (intros; try refine go_st ?_); refine go_r 126 127 (by decide) ?_; (refine sJ c71r24.eq_1 ?_; try with_reducible exact True.intro)
       (intros; try refine go_st ?_)
       refine go_ret (retQ_v rfl ?_); simp only [push_cast, Nat.reduceBEq]
       exact hout (rs := []) false SlV.nil (by rw [hb4, parse4, if_neg k9]; rfl)
     have k9 : s.2.2 = 0 := by simpa using k9
     obtain ⟨p3, hp3⟩ : ∃ n : Nat, s.2.1 = n := ⟨s.2.1.toNat, by omega⟩
     (repeat first | (with_reducible intro _) | refine go_skip ?_ | refine go_b ?_)
     (intros; try refine go_st ?_); refine go_r 127 128 (by decide) ?_; (refine sJ c71r25.eq_1 ?_; try with_reducible exact True.intro)
     (intros; try refine go_st ?_); refine go_r 128 129 (by decide) ?_; (refine sJ c71r26.eq_1 ?_; try with_reducible exact True.intro)
     (intros; try refine go_st ?_)
     exact go_l ⟨s, p3, ⟨by rw [if_pos (by omega), hs], k9, hp3⟩, ⟨eE, (eJ @hp3), eE, eE⟩, rfl⟩
   · have k1 := of_decide_eq_false k1
     (intros; try refine go_st ?_)
     exact go_l ⟨(0, (p2 : Int), 0), p2, ⟨by rw [if_neg (by omega)], rfl, rfl⟩, ⟨eE, eE, eE, eE⟩, rfl⟩
 rintro e h ⟨s, p3, ⟨hs, hs0, hp3⟩, ⟨e0, e5, e13, e14⟩, rfl⟩
 rw [← hs] at hb4
 have hb5 : parseB 16 l = (recsG l n0 s.1 p3 many).bind fun r => if r.2 = l.length ∧ stOk r.1 s.1 = true then some (mkB [n0, n1, n2, n3, n4, n5, n6] m r.1) else none := by
   rw [hb4, parse4, if_pos hs0, hp3]
   rfl
 clear hb4 hs
 refine go_keep [0, 5, 13, 14] ?_
 (refine sJ4 @e0 @e5 @e13 @e14 ?_; try with_reducible exact True.intro)
 (repeat (with_reducible intro _)); try refine go_seq ?_
 refine go_ghost (ghost_sub (L' := [.reg 4 [.int .i64 n0, .int .i64 (n0 + n1), .int .i64 n2, .int .i64 n3, .int .i64 n4, .int .i64 n5, .int .i64 n6, .bool tx, .int .i64 ct, .slice none 0 0], .reg 2 [.int .i64 0, .int .i64 0, .int .i64 0, .int .i64 0, .int .i64 0, .int .i64 0, .int .i64 0, .bool false, .int .i64 0, .slice none 0 0]]) (.cons _ (List.Sublist.refl _))) ?_
 refine go_ghost (ghost_nil none 49 5) ?_
 refine go_cut (fun e h => ∃ (rs : List Rec) (p : Nat) (u : Value) (zc : List Value) (G' : Nat → Option Obj), (recsG l n0 s.1 p3 many = some (rs, p) ∧ rs.length = many ∧ Gle G G' ∧ Cells RR 5 rs zc) ∧ (e 0 = .slice A l.length c ∧ e 5 = .int .i64 (p : Int) ∧ e 13 = .int .i64 (many : Int) ∧ e 14 = .int .i64 s.1) ∧
   h = ⟨G', [.row u 49 5 rs.length zc, .reg 4 [.int .i64 n0, .int .i64 (n0 + n1), .int .i64 n2, .int .i64 n3, .int .i64 n4, .int .i64 n5, .int .i64 n6, .bool tx, .int .i64 ct, u], .reg 2 [.int .i64 0, .int .i64 0, .int .i64 0, .int .i64 0, .int .i64 0, .int .i64 0, .int .i64 0, .bool false, .int .i64 0, .slice none 0 0]], []⟩) ?_ ?_
 · (intros; try refine go_st ?_); refine go_r 0 0 (by decide) ?_; (refine sJ c71r27.eq_1 ?_; try with_reducible exact True.intro)
   (intros; try refine go_st ?_)
   refine go_loop (fun e h => ∃ (k : Nat) (rs : List Rec) (p : Nat) (u : Value) (zc : List Value) (G' : Nat → Option Obj), (k ≤ many ∧ rs.length = k ∧ Gle G G' ∧ Cells RR 5 rs zc ∧ recsG l n0 s.1 p3 k = some (rs, p)) ∧
     e 0 = .slice A l.length c ∧ e 5 = .int .i64 (p : Int) ∧ e 13 = .int .i64 (many : Int) ∧ e 14 = .int .i64 s.1 ∧ e 129 = .int .i64 (many : Int) ∧ e 130 = .int .i64 k ∧ h.G = G' ∧ h.D = [] ∧ [.row u 49 5 rs.length zc, .reg 4 [.int .i64 n0, .int .i64 (n0 + n1), .int .i64 n2, .int .i64 n3, .int .i64 n4, .int .i64 n5, .int .i64 n6, .bool tx, .int .i64 ct, u], .reg 2 [.int .i64 0, .int .i64 0, .int .i64 0, .int .i64 0, .int .i64 0, .int .i64 0, .int .i64 0, .bool false, .int .i64 0, .slice none 0 0]].Sublist h.L) (fun e h => many - iv (e 130)) ?_ ?_
   · exact ⟨0, [], p3, _, [], G, ⟨Nat.zero_le _, rfl, .refl _, .nil, rfl⟩, eE, eE, eE, eE, eE, eE, rfl, rfl, List.Sublist.refl _⟩
   · rintro e ⟨G', L, D⟩ ⟨k, rs, p, u, zc, G2, ⟨hk, hrl, hgg, hcs, hrg⟩, e0, e5, e13, e14, e129, e130, hG, hD, hL⟩
     dsimp only at hG hD hL
     subst hG hD
     refine go_ghost (ghost_sub hL) ?_
     refine go_keep [0, 5, 13, 14, 129, 130] ?_
     (refine sJ6 @e0 @e5 @e13 @e14 @e129 @e130 ?_; try with_reducible exact True.intro)
     (intros; try refine go_st ?_); refine go_r 0 0 (by decide) ?_; (refine sJ c71r28.eq_1 ?_; try with_reducible exact True.intro)
     (intros; try refine go_st ?_); refine go_c ?_; (refine sI ?_; try with_reducible exact True.intro)
     refine gb (fun k1 => ?_) (fun k1 => ?_)
     rotate_left
     · have k1 : k = many := by have := of_decide_eq_false k1; omega
       subst k1
       refine go_exit ?_
       (refine sI ?_; try with_reducible exact True.intro)
       exact go_l ⟨rs, p, u, zc, G', ⟨hrg, hrl, hgg, hcs⟩, ⟨eE, eE, eE, eE⟩, rfl⟩
     have k1 : k < many := by have := of_decide_eq_true k1; omega
     have hw := inc_i k many k1 (by unfold maxLen; omega)
     have hrec := RRGet_ok l p n0 s.1 _ G' (SB.le hl00 hgg)
     have hrr := getR_RR l p n0 s.1
     have hnxt : recsG l n0 s.1 p3 (k + 1) = if (getR l p n0 s.1).2.2 = 0 then some (rs ++ [(getR l p n0 s.1).1], (getR l p n0 s.1).2.1.toNat) else none := by
       rw [recsG, hrg]
       rfl
     have hnn := getR_nn l p n0 s.1
     generalize getR l p n0 s.1 = q at hrec hrr hnxt hnn
     obtain ⟨r, nx, er⟩ := q
     dsimp only at hrr hnxt hrec hnn
     unfold cellR at hrec hrr
     (repeat first | (with_reducible intro _) | refine go_skip ?_ | refine go_b ?_)
     (intros; try refine go_st ?_); refine go_r 132 142 (by decide) ?_; (refine sJ c71r29.eq_1 ?_; try with_reducible exact True.intro)
     refine (hrec _ _).mono ?_
     rintro v h' ⟨rfl, rfl⟩
     (refine sI ?_; try with_reducible exact True.intro)
     (intros; try refine go_st ?_); refine go_r 142 143 (by decide) ?_; (refine sJ c71r30.eq_1 ?_; try with_reducible exact True.intro)
     (intros; try refine go_st ?_); refine go_c ?_; (refine sI ?_; try with_reducible exact True.intro)
     refine gb (fun k2 => ?_) (fun k2 => ?_)
     · have k2 := of_decide_eq_true k2
       rw [if_neg k2] at hnxt
       have := recsG_none (many - (k + 1)) (k + 1) hnxt
       rw [show k + 1 + (many - (k + 1)) = many by omega] at this
       refine go_gx (gx_slv_at [_] _ (by decide) hcs) ?_
       rintro h' ⟨G2, rfl, hg2, hB⟩
       obtain ⟨B, d, rfl, -⟩ := id hB
       (intros; try refine go_st ?_); refine go_r 144 145 (by decide) ?_; (refine sJ c71r31.eq_1 ?_; try with_reducible exact True.intro)
       (intros; try refine go_st ?_)
       refine go_ret (retQ_v rfl ?_); simp only [push_cast, Nat.reduceBEq]
       exact hout false hB (by rw [hb5, this]; rfl)
     have k2 : er = 0 := by simpa using k2
     rw [if_pos k2] at hnxt
     obtain ⟨nx, rfl⟩ : ∃ n : Nat, nx = n := ⟨nx.toNat, by omega⟩
     rw [Int.toNat_natCast] at hnxt
     (repeat first | (with_reducible intro _) | refine go_skip ?_ | refine go_b ?_)
     (intros; try refine go_st ?_); refine go_r 146 150 (by decide) ?_; (refine sJ c71r32.eq_1 ?_; try with_reducible exact True.intro)
     intro bk hbk
     refine app1 (L1 := [_]) (L2 := [_, _]) (E := RR) (x := r) rfl hrr rfl (by simp [Value.oneCell']) hcs (by omega) (by omega) fun A' c' zc' hzc => ?_
     (refine sI ?_; try with_reducible exact True.intro)
     (intros; try refine go_st ?_); refine go_r 151 152 (by decide) ?_; (refine sJ c71r33.eq_1 ?_; try with_reducible exact True.intro)
     (intros; try refine go_st ?_); refine go_r 152 153 (by decide) ?_; (refine sJ2 c71r34.eq_1 @hw ?_; try with_reducible exact True.intro)
     (intros; try refine go_st ?_)
     refine go_l ⟨⟨k + 1, rs ++ [r], nx, _, zc', G', ⟨by omega, by simp [hrl], hgg, hzc, hnxt⟩, eE, eE, eE, eE, eE, eE, rfl, rfl, .cons _ (.cons _ (List.Sublist.refl _))⟩, ?_⟩
     (refine sI ?_; try with_reducible exact True.intro)
     omega
 rintro e h ⟨rs, p, u, zc, G', ⟨hrg, hrl, hgg, hcs⟩, ⟨e0, e5, e13, e14⟩, rfl⟩
 refine go_keep [0, 5, 13, 14] ?_
 (refine sJ4 @e0 @e5 @e13 @e14 ?_; try with_reducible exact True.intro)
 (repeat (with_reducible intro _))
 refine go_gx (gx_slv_at [] _ (by decide) hcs) ?_
 rintro h' ⟨G2, rfl, hg2, hB0⟩
 obtain ⟨B, d, rfl, hd1, hd2, hB⟩ := id hB0
 rw [hrg] at hb5
 simp only [Option.bind_some, hmk] at hb5
 (intros; try refine go_st ?_); refine go_w _ (.cons_cons _ (.cons _ (List.Sublist.refl _))) (by decide) ?_; (refine sJ c71r35.eq_1 ?_; try with_reducible exact True.intro)
 refine gw (fun k1 => ?_) (fun k1 => ?_)
 rotate_left
 · have k1 := of_decide_eq_false k1
   (refine sI ?_; try with_reducible exact True.intro)
   refine ⟨grow_L (fun _ _ h => h) (.cons_cons _ (.cons _ (List.Sublist.refl _))), ?_⟩
   (refine sI ?_; try with_reducible exact True.intro)
   (intros; try refine go_st ?_)
   refine go_ret (retQ_v rfl ?_); simp only [push_cast, Nat.reduceBEq]
   exact hout false hB0 (show parseB 16 l = none by rw [hb5, if_neg (fun h => by omega)])
 have k1 := of_decide_eq_true k1
 (refine sI ?_; try with_reducible exact True.intro)
 refine gw (fun k2 => ?_) (fun k2 => ?_)
 · have k2 := of_decide_eq_true k2
   have hrs : rs = [] := List.eq_nil_of_length_eq_zero (by omega)
   subst hrs
   (refine sI ?_; try with_reducible exact True.intro)
   refine ⟨grow_L (fun _ _ h => h) (.cons_cons _ (.cons _ (List.Sublist.refl _))), ?_⟩
   (refine sI ?_; try with_reducible exact True.intro)
   (intros; try refine go_st ?_)
   refine go_ret (retQ_v rfl ?_); simp only [push_cast, Nat.reduceBEq]
   exact hout true hB0 (show parseB 16 l = some _ by rw [hb5, if_pos ⟨by omega, rfl⟩])
 have k2 := of_decide_eq_false k2
 obtain ⟨r0, h0⟩ : ∃ r, rs[0]? = some r := ⟨rs[0]'(by omega), List.getElem?_eq_getElem _⟩
 have hso : stOk rs s.1 = decide (r0.stamp = s.1) := by
   match rs, h0 with
   | x :: xs, h0 => cases h0; rfl
 (refine sI ?_; try with_reducible exact True.intro)
 refine hB.y_lf h0 rfl rfl (fun cs h => by rw [h.1]; rfl) fun a ha => ?_
 (refine sI ?_; try with_reducible exact True.intro)
 refine ⟨grow_L (fun _ _ h => h) (.cons_cons _ (.cons _ (List.Sublist.refl _))), ?_⟩
 (refine sI ?_; try with_reducible exact True.intro)
 (intros; try refine go_st ?_)
 refine go_ret (retQ_v rfl ?_); simp only [push_cast, Nat.reduceBEq]
 refine hout _ hB0 ?_
 by_cases h : r0.stamp = s.1
 · rw [if_pos (decide_eq_true h), hb5, if_pos ⟨by omega, by rw [hso, decide_eq_true h]⟩]
 · rw [if_neg (by simpa using h), hb5, if_neg (fun hc => by rw [hso] at hc; simp [h] at hc)]
theorem F56 : Fun Try.prog 56 68 v56 c56 o56 := Fun.mk' Try.func56 Try.ntmps56 (by kernel_rfl) (by kernel_rfl) s56 q56
theorem F57 : Fun Try.prog 57 68 v57 c57 o57 := Fun.mk' Try.func57 Try.ntmps57 (by kernel_rfl) (by kernel_rfl) s57 q57
def noneB : Batch := ⟨0, 0, 0, 0, 0, 0, 0, false, 0, []⟩
def chkP (w : Int) (l : List UInt8) : Option Batch := (parseB w l).bind fun x => if errB x = 0 then some x else none
def getB (l : List UInt8) (a : Int) : Batch × Int × Int :=
 if (getN l a 4).2 = 0 then
   if 5 ≤ (getN l a 4).1 ∧ (getN l a 4).1 ≤ 2044 then
     if (getN l a 4).1 ≤ (l.drop (a.toNat + 4)).length then
       if (openB ((l.drop (a.toNat + 4)).take (getN l a 4).1)).2 = 0 then
         match chkP 15 (openB ((l.drop (a.toNat + 4)).take (getN l a 4).1)).1 with
         | none => (noneB, 0, 11)
         | some x => (x, ((a.toNat + 4 + (getN l a 4).1 : Nat) : Int), 0)
       else (noneB, 0, (openB ((l.drop (a.toNat + 4)).take (getN l a 4).1)).2)
     else (noneB, 0, 10)
   else (noneB, 0, 11)
 else (noneB, 0, (getN l a 4).2)
def GetBR (l : List UInt8) (a : Int) (G : Nat → Option Obj) (r : Value) : Prop := ∃ cs, r = .tuple #[.agg cs.toArray, .int .i64 (getB l a).2.1, .int .i64 (getB l a).2.2] ∧ BE G (getB l a).1 cs
theorem getN_ok {l : List UInt8} {a : Int} {k : Nat} (h : (getN l a k).2 = 0) : 0 ≤ a ∧ a.toNat + k ≤ l.length ∨ (k = 0) := by
 unfold getN at h
 split at h
 · cases h
 · split at h
   · cases h
   · rename_i h1 h2
     by_cases hk : k = 0
     · exact .inr hk
     · left
       simp at h2
       omega
theorem getN_lt {l : List UInt8} {a : Int} : (getN l a 4).1 < 4294967296 := by
 unfold getN
 split
 · decide
 · split
   · decide
   · have := numB_lt ((l.drop a.toNat).take 4)
     have h2 : 256 ^ ((l.drop a.toNat).take 4).length ≤ 256 ^ 4 := Nat.pow_le_pow_right (by decide) (by simp; omega)
     omega
theorem openB_len (l : List UInt8) : (openB l).1.length ≤ l.length := by
 unfold openB
 split
 · simp
 · split
   · simp
   · simp
theorem form_span {x : Batch} (h : ¬ x.last - x.base < 16) : errB x ≠ 0 := by
 rw [errB_n fun hf => h hf.2.2.1.2.1]
 decide
theorem parse4_bad {l : List UInt8} {ns : List Int} {m : UInt8} (h : ∀ rs, errB (mkB ns m rs) ≠ 0) (many : Nat) (s : Int × Int × Int) : ((parse4 l ns m many s).bind fun x => if errB x = 0 then some x else none) = none := by
 unfold parse4
 split
 · cases recsG l (ns.getD 0 0) s.1 s.2.1.toNat many with
   | none => rfl
   | some r =>
     simp only [Option.bind_some]
     split
     · simp only [Option.bind_some]
       exact if_neg (h _)
     · rfl
 · rfl
theorem parse3_bad {l : List UInt8} {ns : List Int} {m : UInt8} (h : ∀ rs, errB (mkB ns m rs) ≠ 0) (v : Int × Int × Int) : ((parse3 l ns m v).bind fun x => if errB x = 0 then some x else none) = none := by
 unfold parse3
 split
 · exact parse4_bad h _ _
 · rfl
theorem chkP_16 (l : List UInt8) : chkP 16 l = chkP 15 l := by
 unfold chkP parseB
 cases nums l 7 with
 | none => rfl
 | some q =>
   simp only [Option.bind_some]
   unfold parse2
   cases l[q.2]? with
   | none => rfl
   | some m =>
     simp only [Option.bind_some]
     by_cases h15 : m.toNat < 8 ∧ (0 ≤ q.1.getD 0 0 ∧ q.1.getD 0 0 ≤ 1099511627776) ∧ (0 ≤ q.1.getD 1 0 ∧ q.1.getD 1 0 ≤ 15)
     · rw [if_pos h15, if_pos ⟨h15.1, h15.2.1, by omega, by omega⟩]
     · rw [if_neg h15]
       by_cases h16 : m.toNat < 8 ∧ (0 ≤ q.1.getD 0 0 ∧ q.1.getD 0 0 ≤ 1099511627776) ∧ (0 ≤ q.1.getD 1 0 ∧ q.1.getD 1 0 ≤ 16)
       · rw [if_pos h16]
         have hs : q.1.getD 1 0 = 16 := by
           rcases Int.lt_or_le (q.1.getD 1 0) 16 with h | h
           · exact absurd ⟨h16.1, h16.2.1, h16.2.2.1, by omega⟩ h15
           · omega
         have key : ∀ rs, errB (mkB q.1 m rs) ≠ 0 := fun rs => form_span (by
           show ¬ q.1.getD 0 0 + q.1.getD 1 0 - q.1.getD 0 0 < 16
           omega)
         exact parse3_bad key _
       · rw [if_neg h16]
theorem chkP_some {w : Int} {l : List UInt8} {x : Batch} (h : parseB w l = some x) (h0 : errB x = 0) : chkP w l = some x := by rw [chkP, h]; exact if_pos h0
theorem chkP_bad {w : Int} {l : List UInt8} {x : Batch} (h : parseB w l = some x) (h0 : ¬ errB x = 0) : chkP w l = none := by rw [chkP, h]; exact if_neg h0
theorem chkP_none {w : Int} {l : List UInt8} (h : parseB w l = none) : chkP w l = none := by rw [chkP, h]; rfl
set_option maxHeartbeats 2000000 in
theorem BGet_ok (l : List UInt8) (a : Int) (v : Value) (G : Nat → Option Obj) (hl : SB G v l) (hb : l.length ≤ 1000000) : FnD Try.prog 56 #[v, .int .i64 a] G (GetBR l a) := by
 have hl0 := hl
 obtain ⟨A, c, rfl, hc, hm, hA⟩ := hl
 unfold maxLen at hm
 refine F56.fnD (by simp) (go_of ?_)
 unfold c56
 have hng := NGet_ok l a 4 (by omega) _ G hl0
 have hnk := @getN_ok l a 4
 have hnl := @getN_lt l a
 (intros; try refine go_st ?_); refine go_r 0 0 (by decide) ?_; (refine sJ c56r0.eq_1 ?_; try with_reducible exact True.intro)
 (intros; try refine go_st ?_); refine go_r 11 17 (by decide) ?_; (refine sJ c56r1.eq_1 ?_; try with_reducible exact True.intro)
 refine (hng _ _).mono ?_; rintro _ _ ⟨rfl, rfl⟩; (refine sI ?_; try with_reducible exact True.intro)
 (intros; try refine go_st ?_); refine go_r 17 18 (by decide) ?_; (refine sJ c56r2.eq_1 ?_; try with_reducible exact True.intro)
 (intros; try refine go_st ?_); refine go_c ?_; (refine sI ?_; try with_reducible exact True.intro)
 refine gb (fun k1 => ?_) (fun k1 => ?_)
 · have k1 := of_decide_eq_true k1
   (intros; try refine go_st ?_); refine go_r 19 21 (by decide) ?_; (refine sJ c56r3.eq_1 ?_; try with_reducible exact True.intro)
   (intros; try refine go_st ?_)
   refine go_ret (retQ_v rfl ?_); simp only [push_cast, Nat.reduceBEq]
   have hg : getB l a = (noneB, 0, (getN l a 4).2) := by rw [getB, if_neg k1]
   exact ⟨_, by rw [hg], by rw [hg]; exact BE.zero⟩
 have k1 : (getN l a 4).2 = 0 := by simpa using k1
 obtain ⟨ha, hal⟩ := (hnk k1).resolve_right (by decide)
 obtain ⟨a, rfl⟩ : ∃ n : Nat, a = n := ⟨a.toNat, by omega⟩
 rw [Int.toNat_natCast] at hal
 have hg : getB l (a : Int) = if 5 ≤ (getN l a 4).1 ∧ (getN l a 4).1 ≤ 2044 then
     if (getN l a 4).1 ≤ (l.drop (a + 4)).length then
       if (openB ((l.drop (a + 4)).take (getN l a 4).1)).2 = 0 then
         match chkP 15 (openB ((l.drop (a + 4)).take (getN l a 4).1)).1 with
         | none => (noneB, (0 : Int), (11 : Int))
         | some x => (x, ((a + 4 + (getN l a 4).1 : Nat) : Int), (0 : Int))
       else (noneB, (0 : Int), (openB ((l.drop (a + 4)).take (getN l a 4).1)).2)
     else (noneB, (0 : Int), (10 : Int))
   else (noneB, (0 : Int), (11 : Int)) := by rw [getB, if_pos k1]; rfl
 generalize (getN l a 4).1 = n at hg hnl
 have hbad : ¬ (5 ≤ n ∧ n ≤ 2044) → ∀ (fr : List Td) (e : Env), go none Try.prog 68 v56.1 v56.2 (retQ o56 fun v h => GetBR l a h.G v) (Td.s ((SC.reg false c56r5).seq .ret) :: fr) e ⟨G, [.reg 4 [.int .i64 0, .int .i64 0, .int .i64 0, .int .i64 0, .int .i64 0, .int .i64 0, .int .i64 0, .bool false, .int .i64 0, .slice none 0 0]], []⟩ := fun hx fr e => by
   rw [if_neg hx] at hg
   (intros; try refine go_st ?_); refine go_r 27 28 (by decide) ?_; (refine sJ c56r5.eq_1 ?_; try with_reducible exact True.intro)
   (intros; try refine go_st ?_)
   refine go_ret (retQ_v rfl ?_); simp only [push_cast, Nat.reduceBEq]
   exact ⟨_, by rw [hg], by rw [hg]; exact BE.zero⟩
 (repeat first | (with_reducible intro _) | refine go_skip ?_ | refine go_b ?_)
 (intros; try refine go_st ?_); refine go_r 21 26 (by decide) ?_; (refine sJ c56r4.eq_1 ?_; try with_reducible exact True.intro)
 refine gd (fun k2 => ?_) (fun k2 => ?_)
 · have k2 := of_decide_eq_true k2
   (refine sI ?_; try with_reducible exact True.intro)
   (intros; try refine go_st ?_); refine go_c ?_; (refine sI ?_; try with_reducible exact True.intro)
   exact hbad (by omega) _ _
 have k2 := of_decide_eq_false k2
 (refine sI ?_; try with_reducible exact True.intro)
 (intros; try refine go_st ?_); refine go_c ?_; (refine sI ?_; try with_reducible exact True.intro)
 refine gb (fun k3 => ?_) (fun k3 => ?_)
 · have k3 := of_decide_eq_true k3
   exact hbad (by omega) _ _
 have k3 := of_decide_eq_false k3
 clear hbad
 rw [if_pos ⟨by omega, by omega⟩] at hg
 have w4 : IntKind.i64.wrap ((a : Int) + 4) = ((a + 4 : Nat) : Int) := by rw [w64_id] <;> omega
 (repeat first | (with_reducible intro _) | refine go_skip ?_ | refine go_b ?_)
 (intros; try refine go_st ?_); refine go_r 28 32 (by decide) ?_; (refine sJ2 c56r6.eq_1 @w4 ?_; try with_reducible exact True.intro)
 refine slY_v (a + 4) l.length c hl0 rfl rfl rfl (by omega) fun B hB => ?_
 rw [List.take_length] at hB ⊢
 have hrl : (l.drop (a + 4)).length = l.length - (a + 4) := by simp
 generalize l.drop (a + 4) = rest at hB hg hrl ⊢
 (refine sI ?_; try with_reducible exact True.intro)
 have hcv : IntKind.u64.wrap (rest.length : Int) = (rest.length : Int) := wrap64 (by omega)
 (intros; try refine go_st ?_); refine go_r 32 36 (by decide) ?_; (refine sJ2 c56r7.eq_1 @hcv ?_; try with_reducible exact True.intro)
 (intros; try refine go_st ?_); refine go_c ?_; (refine sI ?_; try with_reducible exact True.intro)
 refine gb (fun k4 => ?_) (fun k4 => ?_)
 · have k4 := of_decide_eq_true k4
   rw [if_neg (by omega)] at hg
   (intros; try refine go_st ?_); refine go_r 37 38 (by decide) ?_; (refine sJ c56r8.eq_1 ?_; try with_reducible exact True.intro)
   (intros; try refine go_st ?_)
   refine go_ret (retQ_v rfl ?_); simp only [push_cast, Nat.reduceBEq]
   exact ⟨_, by rw [hg], by rw [hg]; exact BE.zero⟩
 have k4 := of_decide_eq_false k4
 rw [if_pos (by omega)] at hg
 have hpre := SlV.pre n hB (by omega)
 have hop := Open_ok (rest.take n) _ G hpre (by simp; omega)
 have hol := openB_len (rest.take n)
 have hrn : (rest.take n).length ≤ 2044 := by simp; omega
 generalize openB (rest.take n) = o at hop hg hol
 (repeat first | (with_reducible intro _) | refine go_skip ?_ | refine go_b ?_)
 (intros; try refine go_st ?_); refine go_r 38 45 (by decide) ?_; (refine sJ c56r9.eq_1 ?_; try with_reducible exact True.intro)
 refine ⟨by omega, ?_⟩
 refine (hop _ []).mono ?_
 rintro r h' ⟨G1, L', rfl, hg1, u, rfl, ys, hys, rfl⟩
 (refine sI ?_; try with_reducible exact True.intro)
 (repeat (with_reducible intro _)); try refine go_seq ?_
 refine go_gx (gx_slv_at [] _ (by decide) hys) ?_
 rintro h' ⟨G2, rfl, hg2, hv2⟩
 (intros; try refine go_st ?_); refine go_r 45 46 (by decide) ?_; (refine sJ c56r10.eq_1 ?_; try with_reducible exact True.intro)
 (intros; try refine go_st ?_); refine go_c ?_; (refine sI ?_; try with_reducible exact True.intro)
 refine gb (fun k5 => ?_) (fun k5 => ?_)
 · have k5 := of_decide_eq_true k5
   rw [if_neg k5] at hg
   (intros; try refine go_st ?_); refine go_r 47 49 (by decide) ?_; (refine sJ c56r11.eq_1 ?_; try with_reducible exact True.intro)
   (intros; try refine go_st ?_)
   refine go_ret (retQ_v rfl ?_); simp only [push_cast, Nat.reduceBEq]
   exact ⟨_, by rw [hg], by rw [hg]; exact BE.zero⟩
 have k5 : o.2 = 0 := by simpa using k5
 rw [if_pos k5] at hg
 (repeat first | (with_reducible intro _) | refine go_skip ?_ | refine go_b ?_)
 (intros; try refine go_st ?_); refine go_r 49 54 (by decide) ?_; (refine sJ c56r12.eq_1 ?_; try with_reducible exact True.intro)
 refine (parse_ok o.1 u G2 hv2 (by omega) _ []).mono ?_
 rintro r h' ⟨G3, rfl, hg3, x, cs, ok, rfl, hbe, hpo⟩
 have hck := BCheck_ok x cs G3 hbe
 have hbe0 := hbe
 obtain ⟨B', d', rfl, -⟩ := hbe
 unfold cellH at hck
 unfold cellH
 (refine sI ?_; try with_reducible exact True.intro)
 have hbad : chkP 15 o.1 = none → ∀ (fr : List Td) (e : Env), go none Try.prog 68 v56.1 v56.2 (retQ o56 fun v h => GetBR l a h.G v) (Td.s ((SC.reg false c56r14).seq .ret) :: fr) e ⟨G3, [.reg 4 (cellH x (.slice B' x.recs.length d'))], []⟩ := fun hx fr e => by
   rw [hx] at hg
   dsimp only at hg
   unfold cellH
   (intros; try refine go_st ?_); refine go_r 61 62 (by decide) ?_; (refine sJ c56r14.eq_1 ?_; try with_reducible exact True.intro)
   (intros; try refine go_st ?_)
   refine go_ret (retQ_v rfl ?_); simp only [push_cast, Nat.reduceBEq]
   exact ⟨_, by rw [hg], by rw [hg]; exact BE.zero⟩
 unfold cellH at hbad
 (intros; try refine go_st ?_); refine go_r 54 60 (by decide) ?_; (refine sJ c56r13.eq_1 ?_; try with_reducible exact True.intro)
 refine gd (fun k6 => ?_) (fun k6 => ?_)
 · have k6 : ok = false := by simpa using k6
   subst k6
   (refine sI ?_; try with_reducible exact True.intro)
   (intros; try refine go_st ?_); refine go_c ?_; (refine sI ?_; try with_reducible exact True.intro)
   exact hbad (chkP_none hpo) _ _
 have k6 : ok = true := by simpa using k6
 subst k6
 (refine sI ?_; try with_reducible exact True.intro)
 refine (hck _ _).mono ?_; rintro _ _ ⟨rfl, rfl⟩; (refine sI ?_; try with_reducible exact True.intro)
 (intros; try refine go_st ?_); refine go_c ?_; (refine sI ?_; try with_reducible exact True.intro)
 refine gb (fun k7 => ?_) (fun k7 => ?_)
 · have k7 := of_decide_eq_true k7
   exact hbad (chkP_bad hpo k7) _ _
 have k7 : errB x = 0 := by simpa using k7
 clear hbad
 rw [chkP_some hpo k7] at hg
 dsimp only at hg
 have hcn : IntKind.i64.wrap (n : Int) = (n : Int) := by rw [w64_id] <;> omega
 have hw5 : IntKind.i64.wrap (((a + 4 : Nat) : Int) + n) = ((a + 4 + n : Nat) : Int) := by rw [w64_id] <;> omega
 generalize a + 4 + n = nx at hg hw5
 generalize a + 4 = a4 at w4 hw5
 (repeat first | (with_reducible intro _) | refine go_skip ?_ | refine go_b ?_)
 (intros; try refine go_st ?_); refine go_r 62 68 (by decide) ?_; (refine sJ4 c56r15.eq_1 @w4 @hcn @hw5 ?_; try with_reducible exact True.intro)
 (intros; try refine go_st ?_)
 refine go_ret (retQ_v rfl ?_); simp only [push_cast, Nat.reduceBEq]
 exact ⟨_, by rw [hg], by rw [hg]; exact hbe0⟩
set_option maxHeartbeats 2000000 in
theorem RBGet_ok (l : List UInt8) (a : Int) (v : Value) (G : Nat → Option Obj) (hl : SB G v l) (hb : l.length ≤ 1000000) : FnD Try.prog 57 #[v, .int .i64 a] G (GetBR l a) := by
 have hl0 := hl
 obtain ⟨A, c, rfl, hc, hm, hA⟩ := hl
 unfold maxLen at hm
 refine F57.fnD (by simp) (go_of ?_)
 unfold c57
 have hng := RNGet_ok l a 4 (by omega) _ G hl0
 have hnk := @getN_ok l a 4
 have hnl := @getN_lt l a
 (intros; try refine go_st ?_); refine go_r 0 0 (by decide) ?_; (refine sJ c57r0.eq_1 ?_; try with_reducible exact True.intro)
 (intros; try refine go_st ?_); refine go_r 13 19 (by decide) ?_; (refine sJ c57r1.eq_1 ?_; try with_reducible exact True.intro)
 refine (hng _ _).mono ?_; rintro _ _ ⟨rfl, rfl⟩; (refine sI ?_; try with_reducible exact True.intro)
 (intros; try refine go_st ?_); refine go_r 19 20 (by decide) ?_; (refine sJ c57r2.eq_1 ?_; try with_reducible exact True.intro)
 (intros; try refine go_st ?_); refine go_c ?_; (refine sI ?_; try with_reducible exact True.intro)
 refine gb (fun k1 => ?_) (fun k1 => ?_)
 · have k1 := of_decide_eq_true k1
   (intros; try refine go_st ?_); refine go_r 21 23 (by decide) ?_; (refine sJ c57r3.eq_1 ?_; try with_reducible exact True.intro)
   (intros; try refine go_st ?_)
   refine go_ret (retQ_v rfl ?_); simp only [push_cast, Nat.reduceBEq]
   have hg : getB l a = (noneB, 0, (getN l a 4).2) := by rw [getB, if_neg k1]
   exact ⟨_, by rw [hg], by rw [hg]; exact BE.zero⟩
 have k1 : (getN l a 4).2 = 0 := by simpa using k1
 obtain ⟨ha, hal⟩ := (hnk k1).resolve_right (by decide)
 obtain ⟨a, rfl⟩ : ∃ n : Nat, a = n := ⟨a.toNat, by omega⟩
 rw [Int.toNat_natCast] at hal
 have hg : getB l (a : Int) = if 5 ≤ (getN l a 4).1 ∧ (getN l a 4).1 ≤ 2044 then
     if (getN l a 4).1 ≤ (l.drop (a + 4)).length then
       if (openB ((l.drop (a + 4)).take (getN l a 4).1)).2 = 0 then
         match chkP 15 (openB ((l.drop (a + 4)).take (getN l a 4).1)).1 with
         | none => (noneB, (0 : Int), (11 : Int))
         | some x => (x, ((a + 4 + (getN l a 4).1 : Nat) : Int), (0 : Int))
       else (noneB, (0 : Int), (openB ((l.drop (a + 4)).take (getN l a 4).1)).2)
     else (noneB, (0 : Int), (10 : Int))
   else (noneB, (0 : Int), (11 : Int)) := by rw [getB, if_pos k1]; rfl
 generalize (getN l a 4).1 = n at hg hnl
 have hbad : ¬ (5 ≤ n ∧ n ≤ 2044) → ∀ (fr : List Td) (e : Env), go none Try.prog 68 v57.1 v57.2 (retQ o57 fun v h => GetBR l a h.G v) (Td.s ((SC.reg false c57r5).seq .ret) :: fr) e ⟨G, [.reg 4 [.int .i64 0, .int .i64 0, .int .i64 0, .int .i64 0, .int .i64 0, .int .i64 0, .int .i64 0, .bool false, .int .i64 0, .slice none 0 0]], []⟩ := fun hx fr e => by
   rw [if_neg hx] at hg
   (intros; try refine go_st ?_); refine go_r 29 30 (by decide) ?_; (refine sJ c57r5.eq_1 ?_; try with_reducible exact True.intro)
   (intros; try refine go_st ?_)
   refine go_ret (retQ_v rfl ?_); simp only [push_cast, Nat.reduceBEq]
   exact ⟨_, by rw [hg], by rw [hg]; exact BE.zero⟩
 (repeat first | (with_reducible intro _) | refine go_skip ?_ | refine go_b ?_)
 (intros; try refine go_st ?_); refine go_r 23 28 (by decide) ?_; (refine sJ c57r4.eq_1 ?_; try with_reducible exact True.intro)
 refine gd (fun k2 => ?_) (fun k2 => ?_)
 · have k2 := of_decide_eq_true k2
   (refine sI ?_; try with_reducible exact True.intro)
   (intros; try refine go_st ?_); refine go_c ?_; (refine sI ?_; try with_reducible exact True.intro)
   exact hbad (by omega) _ _
 have k2 := of_decide_eq_false k2
 (refine sI ?_; try with_reducible exact True.intro)
 (intros; try refine go_st ?_); refine go_c ?_; (refine sI ?_; try with_reducible exact True.intro)
 refine gb (fun k3 => ?_) (fun k3 => ?_)
 · have k3 := of_decide_eq_true k3
   exact hbad (by omega) _ _
 have k3 := of_decide_eq_false k3
 clear hbad
 rw [if_pos ⟨by omega, by omega⟩] at hg
 have w4 : IntKind.i64.wrap ((a : Int) + 4) = ((a + 4 : Nat) : Int) := by rw [w64_id] <;> omega
 have hcn : IntKind.i64.wrap (n : Int) = (n : Int) := by rw [w64_id] <;> omega
 have hw5 : IntKind.i64.wrap (((a + 4 : Nat) : Int) + n) = ((a + 4 + n : Nat) : Int) := by rw [w64_id] <;> omega
 obtain ⟨a4, ha4⟩ : ∃ a4, a4 = a + 4 := ⟨_, rfl⟩
 rw [← ha4] at w4 hw5 hg hal
 obtain ⟨nx, hnx⟩ : ∃ nx, nx = a4 + n := ⟨_, rfl⟩
 rw [← hnx] at hw5 hg
 (repeat first | (with_reducible intro _) | refine go_skip ?_ | refine go_b ?_)
 (intros; try refine go_st ?_); refine go_r 30 35 (by decide) ?_; (refine sJ4 c57r6.eq_1 @w4 @hcn @hw5 ?_; try with_reducible exact True.intro)
 (intros; try refine go_st ?_); refine go_r 35 38 (by decide) ?_; (refine sJ c57r7.eq_1 ?_; try with_reducible exact True.intro)
 have hrl : (l.drop a4).length = l.length - a4 := by simp
 (intros; try refine go_st ?_); refine go_c ?_; (refine sI ?_; try with_reducible exact True.intro)
 refine gb (fun k4 => ?_) (fun k4 => ?_)
 · have k4 := of_decide_eq_true k4
   rw [if_neg (by omega)] at hg
   (intros; try refine go_st ?_); refine go_r 39 40 (by decide) ?_; (refine sJ c57r8.eq_1 ?_; try with_reducible exact True.intro)
   (intros; try refine go_st ?_)
   refine go_ret (retQ_v rfl ?_); simp only [push_cast, Nat.reduceBEq]
   exact ⟨_, by rw [hg], by rw [hg]; exact BE.zero⟩
 have k4 := of_decide_eq_false k4
 rw [if_pos (by omega)] at hg
 have hsub : (l.take nx).drop a4 = (l.drop a4).take n := by rw [List.drop_take, hnx, Nat.add_sub_cancel_left]
 (repeat first | (with_reducible intro _) | refine go_skip ?_ | refine go_b ?_)
 (intros; try refine go_st ?_); refine go_r 40 49 (by decide) ?_; (refine sJ2 c57r9.eq_1 @w4 ?_; try with_reducible exact True.intro)
 refine slY_v a4 nx c hl0 rfl rfl rfl (by omega) fun B hB => ?_
 rw [hsub] at hB ⊢
 have hrn : ((l.drop a4).take n).length ≤ 2044 := by simp; omega
 have hop := ROpen_ok ((l.drop a4).take n) _ G hB (by omega)
 have hol := openB_len ((l.drop a4).take n)
 generalize openB ((l.drop a4).take n) = o at hop hg hol
 (refine sI ?_; try with_reducible exact True.intro)
 refine (hop _ []).mono ?_
 rintro r h' ⟨G1, L', rfl, hg1, u, rfl, ys, hys, rfl⟩
 (refine sI ?_; try with_reducible exact True.intro)
 (repeat (with_reducible intro _)); try refine go_seq ?_
 refine go_gx (gx_slv_at [] _ (by decide) hys) ?_
 rintro h' ⟨G2, rfl, hg2, hv2⟩
 (intros; try refine go_st ?_); refine go_r 49 50 (by decide) ?_; (refine sJ c57r10.eq_1 ?_; try with_reducible exact True.intro)
 (intros; try refine go_st ?_); refine go_c ?_; (refine sI ?_; try with_reducible exact True.intro)
 refine gb (fun k5 => ?_) (fun k5 => ?_)
 · have k5 := of_decide_eq_true k5
   rw [if_neg k5] at hg
   (intros; try refine go_st ?_); refine go_r 51 53 (by decide) ?_; (refine sJ c57r11.eq_1 ?_; try with_reducible exact True.intro)
   (intros; try refine go_st ?_)
   refine go_ret (retQ_v rfl ?_); simp only [push_cast, Nat.reduceBEq]
   exact ⟨_, by rw [hg], by rw [hg]; exact BE.zero⟩
 have k5 : o.2 = 0 := by simpa using k5
 rw [if_pos k5, ← chkP_16] at hg
 (repeat first | (with_reducible intro _) | refine go_skip ?_ | refine go_b ?_)
 (intros; try refine go_st ?_); refine go_r 53 58 (by decide) ?_; (refine sJ c57r12.eq_1 ?_; try with_reducible exact True.intro)
 refine (body_ok o.1 u G2 hv2 (by omega) _ []).mono ?_
 rintro r h' ⟨G3, rfl, hg3, x, cs, ok, rfl, hbe, hpo⟩
 have hck := RBCheck_ok x cs G3 hbe
 have hbe0 := hbe
 obtain ⟨B', d', rfl, -⟩ := hbe
 unfold cellH at hck
 unfold cellH
 (refine sI ?_; try with_reducible exact True.intro)
 have hbad : chkP 16 o.1 = none → ∀ (fr : List Td) (e : Env), go none Try.prog 68 v57.1 v57.2 (retQ o57 fun v h => GetBR l a h.G v) (Td.s ((SC.reg false c57r14).seq .ret) :: fr) e ⟨G3, [.reg 11 (cellH x (.slice B' x.recs.length d')), .reg 4 [.int .i64 0, .int .i64 0, .int .i64 0, .int .i64 0, .int .i64 0, .int .i64 0, .int .i64 0, .bool false, .int .i64 0, .slice none 0 0]], []⟩ := fun hx fr e => by
   rw [hx] at hg
   dsimp only at hg
   unfold cellH
   (intros; try refine go_st ?_); refine go_r 65 66 (by decide) ?_; (refine sJ c57r14.eq_1 ?_; try with_reducible exact True.intro)
   (intros; try refine go_st ?_)
   refine go_ret (retQ_v rfl ?_); simp only [push_cast, Nat.reduceBEq]
   exact ⟨_, by rw [hg], by rw [hg]; exact BE.zero⟩
 unfold cellH at hbad
 (intros; try refine go_st ?_); refine go_r 58 64 (by decide) ?_; (refine sJ c57r13.eq_1 ?_; try with_reducible exact True.intro)
 refine gd (fun k6 => ?_) (fun k6 => ?_)
 · have k6 : ok = false := by simpa using k6
   subst k6
   (refine sI ?_; try with_reducible exact True.intro)
   (intros; try refine go_st ?_); refine go_c ?_; (refine sI ?_; try with_reducible exact True.intro)
   exact hbad (chkP_none hpo) _ _
 have k6 : ok = true := by simpa using k6
 subst k6
 (refine sI ?_; try with_reducible exact True.intro)
 refine (hck _ _).mono ?_; rintro _ _ ⟨rfl, rfl⟩; (refine sI ?_; try with_reducible exact True.intro)
 (intros; try refine go_st ?_); refine go_c ?_; (refine sI ?_; try with_reducible exact True.intro)
 refine gb (fun k7 => ?_) (fun k7 => ?_)
 · have k7 := of_decide_eq_true k7
   exact hbad (chkP_bad hpo k7) _ _
 have k7 : errB x = 0 := by simpa using k7
 clear hbad
 rw [chkP_some hpo k7] at hg
 dsimp only at hg
 (repeat first | (with_reducible intro _) | refine go_skip ?_ | refine go_b ?_)
 (intros; try refine go_st ?_); refine go_r 66 68 (by decide) ?_; (refine sJ c57r15.eq_1 ?_; try with_reducible exact True.intro)
 (intros; try refine go_st ?_)
 refine go_ret (retQ_v rfl ?_); simp only [push_cast, Nat.reduceBEq]
 exact ⟨_, by rw [hg], by rw [hg]; exact hbe0⟩
theorem u8_of {y : Nat} (h : y < 256) : (UInt8.ofNat y).toNat = y := by simp; omega
theorem u8_to (x : UInt8) : UInt8.ofNat x.toNat = x := by simp
theorem gvL_vnat : ∀ (f i z y : Nat) (q : List UInt8), i + f = 9 → y < 2 * 128 ^ f → (0 < i → 0 < y) → gvL i z (vnat f y ++ q) = (0, z + 128 ^ i * y, i + (vnat f y).length)
 | 0, i, z, y, q, hi, hy, h0 => by
   have hx : (UInt8.ofNat y).toNat = y := u8_of (by simp at hy; omega)
   simp at hy
   simp only [vnat, List.cons_append, List.nil_append]
   rw [gvL_end (by rw [hx]; omega) (by rw [hx]; omega), hx, Nat.mod_eq_of_lt (by omega)]
   rfl
 | f + 1, i, z, y, q, hi, hy, h0 => by
   unfold vnat
   split
   · rename_i hlt
     have hx : (UInt8.ofNat y).toNat = y := u8_of (by omega)
     simp only [List.cons_append, List.nil_append]
     rw [gvL_end (by rw [hx]; omega) (by rw [hx]; omega), hx, Nat.mod_eq_of_lt (by omega)]
     rfl
   · rename_i hge
     have hx : (UInt8.ofNat (128 + y % 128)).toNat = 128 + y % 128 := u8_of (by omega)
     simp only [List.cons_append]
     rw [gvL_more (by rw [hx]; omega) (by rw [hx]; omega), hx]
     rw [Nat.pow_succ] at hy
     rw [gvL_vnat f (i + 1) _ (y / 128) q (by omega) (by omega) (by omega)]
     have e1 : (128 + y % 128) % 128 = y % 128 := by omega
     have e2 : 128 ^ (i + 1) * (y / 128) = 128 ^ i * (128 * (y / 128)) := by rw [Nat.pow_succ, Nat.mul_assoc]
     rw [e1, e2, Nat.add_assoc, ← Nat.mul_add, show y % 128 + 128 * (y / 128) = y by omega]
     simp
     omega
theorem gvL_back : ∀ (m : List UInt8) (i z : Nat), i ≤ 9 → (gvL i z m).1 = 0 → ∃ y rest, m = vnat (9 - i) y ++ rest ∧ (gvL i z m).2.1 = z + 128 ^ i * y ∧ (gvL i z m).2.2 = i + (vnat (9 - i) y).length ∧ (0 < i → 0 < y) ∧ y < 2 * 128 ^ (9 - i)
 | [], i, z, _, h => by simp [gvL] at h
 | x :: xs, i, z, hi, h => by
   have hxl := x.toNat_lt
   by_cases h1 : (i = 9 ∧ 1 < x.toNat) ∨ (0 < i ∧ x.toNat = 0)
   · rw [gvL_bad h1] at h; cases h
   · by_cases h2 : x.toNat < 128
     · rw [gvL_end h1 h2]
       refine ⟨x.toNat, xs, ?_, by rw [Nat.mod_eq_of_lt h2], ?_, by omega, ?_⟩
       · rw [vnat_lt h2, u8_to]
         rfl
       · rw [vnat_lt h2]
         rfl
       · by_cases h9 : i = 9
         · subst h9
           simp
           omega
         · have : 128 ^ 1 ≤ 128 ^ (9 - i) := Nat.pow_le_pow_right (by decide) (by omega)
           omega
     · have hi8 : i ≤ 8 := by omega
       rw [gvL_more h1 h2] at h ⊢
       obtain ⟨y, rest, e1, e2, e3, e4, e5⟩ := gvL_back xs (i + 1) _ (by omega) h
       have hy := e4 (by omega)
       refine ⟨(x.toNat - 128) + 128 * y, rest, ?_, ?_, ?_, by omega, ?_⟩
       · rw [show 9 - i = 9 - (i + 1) + 1 by omega, vnat, if_neg (by omega), show 128 + (x.toNat - 128 + 128 * y) % 128 = x.toNat by omega, u8_to, show (x.toNat - 128 + 128 * y) / 128 = y by omega, List.cons_append, ← e1]
       · rw [e2, Nat.pow_succ, Nat.add_assoc]
         congr 1
         rw [show x.toNat % 128 = x.toNat - 128 by omega, Nat.mul_assoc, ← Nat.mul_add]
       · rw [e3, show 9 - i = 9 - (i + 1) + 1 by omega, vnat, if_neg (by omega), show (x.toNat - 128 + 128 * y) / 128 = y by omega, List.length_cons]
         omega
       · rw [show 9 - i = 9 - (i + 1) + 1 by omega, Nat.pow_succ]
         omega
theorem zag_zig {n : Int} (h : I64 n) : zag (zig n) = n := by
 unfold zag zig I64 at *
 split <;> split <;> omega
theorem zig_zag (z : Nat) : zig (zag z) = z := by
 unfold zag zig
 split <;> split <;> omega
theorem getV_if {l : List UInt8} {a : Nat} : getV l (a : Int) = if (gvL 0 0 (l.drop a)).1 = 0 then (zag (gvL 0 0 (l.drop a)).2.1, (a : Int) + (gvL 0 0 (l.drop a)).2.2, 0) else (0, 0, (gvL 0 0 (l.drop a)).1) := by
 rw [getV, if_neg (by omega)]
 rfl
theorem getV_at {l : List UInt8} {a : Nat} {n : Int} {q : List UInt8} (hn : I64 n) (h : l.drop a = pvB n ++ q) : getV l (a : Int) = (n, ((a + (pvB n).length : Nat) : Int), 0) := by
 have hz := zig_lt hn
 rw [getV_if, h, pvB, gvL_vnat 9 0 0 (zig n) q rfl (by omega) (by omega)]
 simp only [if_true, Nat.zero_add, Nat.pow_zero, Nat.one_mul, zag_zig hn]
 rfl
theorem getV_back {l : List UInt8} {a : Nat} (h : (getV l (a : Int)).2.2 = 0) : ∃ q, l.drop a = pvB (getV l (a : Int)).1 ++ q ∧ (getV l (a : Int)).2.1 = ((a + (pvB (getV l (a : Int)).1).length : Nat) : Int) ∧ I64 (getV l (a : Int)).1 := by
 obtain ⟨_, _, _, _, _, hi⟩ := getV_ok h
 rw [getV_if] at h hi ⊢
 split at h
 · rename_i h0
   rw [if_pos h0] at hi ⊢
   obtain ⟨y, rest, e1, e2, e3, _, e5⟩ := gvL_back _ 0 0 (by omega) h0
   simp only [Nat.zero_add, Nat.pow_zero, Nat.one_mul, Nat.sub_zero] at e1 e2 e3
   dsimp only at hi ⊢
   rw [e2] at hi ⊢
   refine ⟨rest, ?_, ?_, hi⟩
   · rw [pvB, zig_zag]; exact e1
   · rw [pvB, zig_zag, e3]; rfl
 · rename_i h0
   exact absurd h h0
theorem pvB_pos (n : Int) : 0 < (pvB n).length := (vnat_len 9 _).2
theorem getT_at {l : List UInt8} {a : Nat} {s : ByteArray} {q : List UInt8} (hs : s.size ≤ 64) (h : l.drop a = ptB s ++ q) : getT l (a : Int) 64 = (s, ((a + (ptB s).length : Nat) : Int), 0) := by
 have hv := getV_at (l := l) (a := a) (n := s.size) (q := s.data.toList ++ q) (by unfold I64; omega) (by rw [h, ptB, List.append_assoc])
 have hd : l.drop (a + (pvB s.size).length) = s.data.toList ++ q := by rw [← List.drop_drop, h, ptB, List.append_assoc, List.drop_left]
 have hl : s.data.toList.length = s.size := rfl
 have hlen : a + (pvB s.size).length + s.size ≤ l.length := by
   have := congrArg List.length hd
   simp at this
   have h2 := pvB_pos s.size
   have h3 := congrArg List.length h
   simp [ptB] at h3
   omega
 rw [getT, hv]
 dsimp only
 rw [if_pos rfl, if_neg (by omega), if_neg (by omega), if_neg (by omega)]
 simp only [Int.toNat_natCast]
 have e1 : (l.take (a + (pvB s.size).length + s.size)).drop (a + (pvB s.size).length) = s.data.toList := by
   rw [List.drop_take, Nat.add_sub_cancel_left, hd, List.take_left' hl]
 rw [e1]
 refine Prod.ext rfl (Prod.ext ?_ rfl)
 simp only [ptB, List.length_append, hl]
 omega
theorem getT_back {l : List UInt8} {a : Nat} (h : (getT l (a : Int) 64).2.2 = 0) : ∃ q, l.drop a = ptB (getT l (a : Int) 64).1 ++ q ∧ (getT l (a : Int) 64).2.1 = ((a + (ptB (getT l (a : Int) 64).1).length : Nat) : Int) ∧ (getT l (a : Int) 64).1.size ≤ 64 := by
 have hb := @getV_back l a
 have hk := @getV_ok l a
 unfold getT at h ⊢
 split at h
 · rename_i h0
   obtain ⟨q, e1, e2, e3⟩ := hb h0
   obtain ⟨k, _, e4, _, e5, _⟩ := hk h0
   rw [Int.toNat_natCast] at e4 e5
   rw [if_pos h0]
   split at h
   · cases h
   · rename_i h1
     split at h
     · cases h
     · rename_i h2
       split at h
       · cases h
       · rename_i h3
         rw [if_neg h1, if_neg h2, if_neg h3]
         generalize getV l (a : Int) = v at *
         obtain ⟨n, nx, er⟩ := v
         dsimp only at *
         obtain ⟨n, rfl⟩ : ∃ m : Nat, n = m := ⟨n.toNat, by omega⟩
         have hk2 : k = (pvB n).length := by omega
         subst hk2
         subst e4
         simp only [Int.toNat_natCast]
         have hd : l.drop (a + (pvB n).length) = q := by rw [← List.drop_drop, e1, List.drop_left]
         have hql : n ≤ q.length := by rw [← hd]; simp; omega
         have e6 : (l.take (a + (pvB n).length + n)).drop (a + (pvB n).length) = q.take n := by rw [List.drop_take, Nat.add_sub_cancel_left, hd]
         rw [e6]
         have hsz : (ByteArray.mk (q.take n).toArray).size = n := by
           show (q.take n).toArray.size = n
           simp
           omega
         refine ⟨q.drop n, ?_, ?_, by rw [hsz]; omega⟩
         · rw [ptB, hsz, List.append_assoc, e1]
           simp
         · rw [ptB, List.length_append, hsz]
           simp
           omega
 · rename_i h0
   exact absurd h h0
theorem at_0 {l : List UInt8} {a : Nat} {x : UInt8} {q : List UInt8} (h : l.drop a = x :: q) : l[a]? = some x := by
 have := List.getElem?_drop (xs := l) (i := a) (j := 0)
 rw [Nat.add_zero, h] at this
 exact this.symm
theorem drop_1 {l : List UInt8} {a : Nat} {x : UInt8} (h : l[a]? = some x) : l.drop a = x :: l.drop (a + 1) := by
 have h2 := List.getElem?_eq_some_iff.1 h
 rw [List.drop_eq_getElem_cons h2.1, h2.2]
theorem drop_more {l p q : List UInt8} {a : Nat} (h : l.drop a = p ++ q) : l.drop (a + p.length) = q := by rw [← List.drop_drop, h, List.drop_left]
theorem inO_iff {n : Int} : inO n = true ↔ 0 ≤ n ∧ n ≤ 1099511627776 := by simp [inO]
theorem getR_at {l : List UInt8} {a : Nat} {r : Rec} {base stamp : Int} {q : List UInt8} (hb : inO base = true) (hs : inO stamp = true) (hc : chkR r = 0) (h : l.drop a = prB r base stamp ++ q) : getR l (a : Int) base stamp = (r, ((a + (prB r base stamp).length : Nat) : Int), 0) := by
 obtain ⟨⟨c1, c2⟩, c3, c4⟩ := chk_small hc
 have hb' := inO_iff.1 hb
 have hs' := inO_iff.1 hs
 have c1' := inO_iff.1 c1
 have c2' := inO_iff.1 c2
 have h1 : l.drop a = pvB (r.off - base) ++ (pvB (r.stamp - stamp) ++ ((if r.dead = true then 1 else 0) :: (ptB r.key ++ (ptB r.val ++ q)))) := by rw [h, prB]; simp
 have h2 := drop_more h1
 have h3 := drop_more h2
 have h4 : l.drop (a + (pvB (r.off - base)).length + (pvB (r.stamp - stamp)).length + 1) = ptB r.key ++ (ptB r.val ++ q) := by
   have := drop_more (p := [if r.dead = true then 1 else 0]) h3
   exact this
 have h5 := drop_more h4
 have v1 := getV_at (show I64 (r.off - base) by unfold I64; omega) h1
 have v2 := getV_at (show I64 (r.stamp - stamp) by unfold I64; omega) h2
 have v4 := getT_at c3 h4
 have v5 := getT_at c4 h5
 have v3 : getF l (a + (pvB (r.off - base)).length + (pvB (r.stamp - stamp)).length) = (r.dead, ((a + (pvB (r.off - base)).length + (pvB (r.stamp - stamp)).length + 1 : Nat) : Int), 0) := by
   rw [getF, at_0 h3]
   cases r.dead <;> simp
 have e1 : g1 l a = (r.off - base, ((a + (pvB (r.off - base)).length : Nat) : Int), 0) := by rw [g1_eq, v1]
 have e2 : g2 l a = (r.stamp - stamp, ((a + (pvB (r.off - base)).length + (pvB (r.stamp - stamp)).length : Nat) : Int), 0) := by rw [g2, e1, nx_0 rfl, v2]
 have e3 : g3 l a = (r.dead, ((a + (pvB (r.off - base)).length + (pvB (r.stamp - stamp)).length + 1 : Nat) : Int), 0) := by rw [g3, e2, nx_0 rfl, Int.toNat_natCast, v3]
 have e4 : g4 l a = (r.key, ((a + (pvB (r.off - base)).length + (pvB (r.stamp - stamp)).length + 1 + (ptB r.key).length : Nat) : Int), 0) := by rw [g4, e3, nx_0 rfl, v4]
 have e5 : g5 l a = (r.val, ((a + (pvB (r.off - base)).length + (pvB (r.stamp - stamp)).length + 1 + (ptB r.key).length + (ptB r.val).length : Nat) : Int), 0) := by rw [g5, e4, nx_0 rfl, v5]
 have er : recR l a base stamp = r := by
   rw [recR, e1, e2, e3, e4, e5]
   have b1 : bes base (r.off - base) = r.off := by rw [bes, if_neg (by omega)]; omega
   have b2 : bes stamp (r.stamp - stamp) = r.stamp := by rw [bes, if_neg (by omega)]; omega
   dsimp only
   rw [b1, b2]
 have hal : a ≤ l.length := by
   have h6 := congrArg List.length h1
   have := pvB_pos (r.off - base)
   simp at h6
   omega
 rw [getR_if ⟨hb, hs, by omega, by omega⟩, e5]
 dsimp only
 rw [if_pos rfl, er, if_pos hc]
 refine Prod.ext rfl (Prod.ext ?_ rfl)
 dsimp only
 simp only [prB, List.length_append, List.length_cons, List.length_nil]
 omega
theorem getR_back {l : List UInt8} {a : Nat} {base stamp : Int} (h : (getR l (a : Int) base stamp).2.2 = 0) : ∃ q, l.drop a = prB (getR l (a : Int) base stamp).1 base stamp ++ q ∧ (getR l (a : Int) base stamp).2.1 = ((a + (prB (getR l (a : Int) base stamp).1 base stamp).length : Nat) : Int) ∧ chkR (getR l (a : Int) base stamp).1 = 0 := by
 by_cases hin : inO base = true ∧ inO stamp = true ∧ 0 ≤ (a : Int) ∧ (a : Int) ≤ l.length
 rotate_left
 · rw [getR, if_neg hin] at h; cases h
 have k5 : (g5 l a).2.2 = 0 := by
   rcases Int.lt_or_le 0 0 with hh | _
   · omega
   · by_cases hh : (g5 l a).2.2 = 0
     · exact hh
     · rw [getR_5 hin hh] at h; exact absurd h hh
 have k4 : (g4 l a).2.2 = 0 := by
   by_cases hh : (g4 l a).2.2 = 0
   · exact hh
   · rw [getR_4 hin hh] at h; exact absurd h hh
 have k3 : (g3 l a).2.2 = 0 := by
   by_cases hh : (g3 l a).2.2 = 0
   · exact hh
   · rw [getR_3 hin hh] at h; exact absurd h hh
 have k2 : (g2 l a).2.2 = 0 := by
   by_cases hh : (g2 l a).2.2 = 0
   · exact hh
   · rw [getR_2 hin hh] at h; exact absurd h hh
 have k1 : (g1 l a).2.2 = 0 := by
   by_cases hh : (g1 l a).2.2 = 0
   · exact hh
   · rw [getR_1 hin hh] at h; exact absurd h hh
 rw [getR_if hin, if_pos k5] at h ⊢
 split at h
 rotate_left
 · cases h
 rename_i hc
 rw [if_pos hc]
 -- field by field
 have e1 := g1_eq l a
 rw [e1] at k1
 obtain ⟨q1, a1, a2, a3⟩ := getV_back k1
 have e2 : g2 l a = getV l (getV l a).2.1 := by rw [g2, e1, nx_0 k1]
 generalize hv1 : getV l (a : Int) = v1 at *
 obtain ⟨d1, n1, x1⟩ := v1
 dsimp only at *
 subst a2
 rw [e2] at k2
 obtain ⟨q2, b1, b2, b3⟩ := getV_back k2
 have e3 : g3 l a = getF l (getV l ((a + (pvB d1).length : Nat) : Int)).2.1.toNat := by rw [g3, e2, nx_0 k2]
 generalize hv2 : getV l ((a + (pvB d1).length : Nat) : Int) = v2 at *
 obtain ⟨d2, n2, x2⟩ := v2
 dsimp only at *
 subst b2
 rw [Int.toNat_natCast] at e3
 have hz1 := drop_more a1
 have hz2 := drop_more b1
 -- the byte
 generalize hj : a + (pvB d1).length + (pvB d2).length = j at *
 obtain ⟨x, hx⟩ : ∃ x, l[j]? = some x := by
   cases hx : l[j]? with
   | none => rw [e3, getF, hx] at k3; cases k3
   | some x => exact ⟨x, rfl⟩
 have hxl : ¬ 1 < x.toNat := fun hh => by
   rw [e3, getF, hx] at k3
   dsimp only at k3
   rw [if_pos hh] at k3
   cases k3
 have e3' : g3 l a = (decide (x.toNat = 1), ((j + 1 : Nat) : Int), 0) := by
   rw [e3, getF, hx]
   dsimp only
   rw [if_neg hxl]
   rfl
 have hd3 := drop_1 hx
 -- the texts
 have e4 : g4 l a = getT l ((j + 1 : Nat) : Int) 64 := by rw [g4, e3', nx_0 rfl]
 rw [e4] at k4
 obtain ⟨q4, c1, c2, c3⟩ := getT_back k4
 have e5 : g5 l a = getT l (getT l ((j + 1 : Nat) : Int) 64).2.1 64 := by rw [g5, e4, nx_0 k4]
 generalize hv4 : getT l ((j + 1 : Nat) : Int) 64 = v4 at *
 obtain ⟨s4, n4, x4⟩ := v4
 dsimp only at *
 subst c2
 rw [e5] at k5
 obtain ⟨q5, f1, f2, f3⟩ := getT_back k5
 generalize hv5 : getT l ((j + 1 + (ptB s4).length : Nat) : Int) 64 = v5 at *
 obtain ⟨s5, n5, x5⟩ := v5
 dsimp only at *
 subst f2
 have hrr : recR l a base stamp = ⟨bes base d1, s4, s5, decide (x.toNat = 1), bes stamp d2⟩ := by rw [recR, e1, e2, e3', e4, e5]
 rw [hrr] at hc ⊢
 obtain ⟨⟨o1, o2⟩, -, -⟩ := chk_small hc
 dsimp only at o1 o2
 have hb1 : bes base d1 - base = d1 := by
   unfold bes at o1 ⊢
   split
   · rename_i hh; rw [if_pos hh] at o1; simp [inO] at o1
   · omega
 have hb2 : bes stamp d2 - stamp = d2 := by
   unfold bes at o2 ⊢
   split
   · rename_i hh; rw [if_pos hh] at o2; simp [inO] at o2
   · omega
 have hbyte : (if decide (x.toNat = 1) = true then (1 : UInt8) else 0) = x := by
   apply UInt8.toNat_inj.1
   by_cases hh : x.toNat = 1
   · simp [hh]
   · simp [hh]; omega
 have hpr : prB ⟨bes base d1, s4, s5, decide (x.toNat = 1), bes stamp d2⟩ base stamp = pvB d1 ++ pvB d2 ++ [x] ++ ptB s4 ++ ptB s5 := by
   rw [prB]
   dsimp only
   rw [hb1, hb2, hbyte]
 have hz4 := drop_more c1
 refine ⟨q5, ?_, ?_, hc⟩
 · rw [hpr, a1, ← hz1, b1, ← hz2, hd3, c1, ← hz4, f1]
   simp
 · rw [e5, hpr]
   dsimp only
   simp only [List.length_append, List.length_cons, List.length_nil]
   omega
theorem take_one {α : Type} {l : List α} {k : Nat} (h : k < l.length) : l = l.take k ++ (l[k] :: l.drop (k + 1)) := by
 rw [← List.drop_eq_getElem_cons h, List.take_append_drop]
theorem headB_app (a b : List Int) : headB (a ++ b) = headB a ++ headB b := by simp [headB]
theorem headB_cons (n : Int) (b : List Int) : headB (n :: b) = pvB n ++ headB b := by simp [headB]
theorem recsB_app (base stamp : Int) (a b : List Rec) : recsB base stamp (a ++ b) = recsB base stamp a ++ recsB base stamp b := by simp [recsB]
theorem recsB_cons (base stamp : Int) (r : Rec) (b : List Rec) : recsB base stamp (r :: b) = prB r base stamp ++ recsB base stamp b := by simp [recsB]
theorem nums_at {l q : List UInt8} {ns : List Int} (hi : ∀ n ∈ ns, I64 n) (h : l = headB ns ++ q) : ∀ k, k ≤ ns.length → nums l k = some (ns.take k, (headB (ns.take k)).length)
 | 0, _ => by simp [nums, headB]
 | k + 1, hk => by
   have hd : l.drop (headB (ns.take k)).length = pvB ns[k] ++ (headB (ns.drop (k + 1)) ++ q) := by
     have e := take_one (l := ns) (k := k) (by omega)
     have : l = headB (ns.take k) ++ (pvB ns[k] ++ (headB (ns.drop (k + 1)) ++ q)) := by
       rw [h]
       conv => lhs; rw [e]
       rw [headB_app, headB_cons]
       simp
     rw [this, List.drop_left]
   have hv := getV_at (hi _ (List.getElem_mem (by omega))) hd
   rw [nums, nums_at hi h k (by omega)]
   simp only [Option.bind_some]
   rw [hv]
   dsimp only
   rw [if_pos rfl, Int.toNat_natCast, List.take_succ_eq_append_getElem (by omega), headB_app, headB_cons]
   simp [headB]
theorem nums_back {l : List UInt8} : ∀ (k : Nat) (ns : List Int) (p : Nat), nums l k = some (ns, p) → ns.length = k ∧ (∀ n ∈ ns, I64 n) ∧ ∃ q, l = headB ns ++ q ∧ p = (headB ns).length
 | 0, ns, p, h => by
   simp only [nums, Option.some.injEq, Prod.mk.injEq] at h
   obtain ⟨rfl, rfl⟩ := h
   exact ⟨rfl, by simp, l, by simp [headB], by simp [headB]⟩
 | k + 1, ns, p, h => by
   rw [nums] at h
   cases hk : nums l k with
   | none => rw [hk] at h; cases h
   | some r =>
     obtain ⟨ns', p'⟩ := r
     rw [hk] at h
     simp only [Option.bind_some] at h
     split at h
     · rename_i h0
       obtain ⟨h1, h2, q, h3, h4⟩ := nums_back k ns' p' hk
       obtain ⟨q2, e1, e2, e3⟩ := getV_back h0
       simp only [Option.some.injEq, Prod.mk.injEq] at h
       obtain ⟨rfl, rfl⟩ := h
       rw [e2]
       generalize (getV l (p' : Int)).1 = n at e1 e3 ⊢
       refine ⟨by simp [h1], ?_, q2, ?_, ?_⟩
       · intro x hx
         rcases List.mem_append.1 hx with hx | hx
         · exact h2 x hx
         · simp at hx; rw [hx]; exact e3
       · have : q = pvB n ++ q2 := by rw [← e1, h3, h4, List.drop_left]
         rw [h3, this, headB_app, headB_cons]
         simp [headB]
       · rw [Int.toNat_natCast, headB_app, headB_cons, h4]
         simp [headB]
     · cases h
theorem recsG_at {l q : List UInt8} {base stamp : Int} {p : Nat} {rs : List Rec} (hb : inO base = true) (hs : inO stamp = true) (hc : ∀ r ∈ rs, chkR r = 0) (h : l.drop p = recsB base stamp rs ++ q) : ∀ k, k ≤ rs.length → recsG l base stamp p k = some (rs.take k, p + (recsB base stamp (rs.take k)).length)
 | 0, _ => by simp [recsG, recsB]
 | k + 1, hk => by
   have hd : l.drop (p + (recsB base stamp (rs.take k)).length) = prB rs[k] base stamp ++ (recsB base stamp (rs.drop (k + 1)) ++ q) := by
     have e := take_one (l := rs) (k := k) (by omega)
     refine drop_more (p := recsB base stamp (rs.take k)) ?_
     rw [h]
     conv => lhs; rw [e]
     rw [recsB_app, recsB_cons]
     simp
   have hv := getR_at hb hs (hc _ (List.getElem_mem (by omega))) hd
   rw [recsG, recsG_at hb hs hc h k (by omega)]
   simp only [Option.bind_some]
   rw [hv]
   dsimp only
   rw [if_pos rfl, Int.toNat_natCast, List.take_succ_eq_append_getElem (by omega), recsB_app, recsB_cons]
   simp [recsB]
   omega
theorem recsG_back {l : List UInt8} {base stamp : Int} {p : Nat} : ∀ (k : Nat) (rs : List Rec) (p' : Nat), recsG l base stamp p k = some (rs, p') → rs.length = k ∧ (∀ r ∈ rs, chkR r = 0) ∧ ∃ q, l.drop p = recsB base stamp rs ++ q ∧ p' = p + (recsB base stamp rs).length
 | 0, rs, p', h => by
   simp only [recsG, Option.some.injEq, Prod.mk.injEq] at h
   obtain ⟨rfl, rfl⟩ := h
   exact ⟨rfl, by simp, l.drop p, by simp [recsB], by simp [recsB]⟩
 | k + 1, rs, p', h => by
   rw [recsG] at h
   cases hk : recsG l base stamp p k with
   | none => rw [hk] at h; cases h
   | some r =>
     obtain ⟨rs', p1⟩ := r
     rw [hk] at h
     simp only [Option.bind_some] at h
     split at h
     · rename_i h0
       obtain ⟨h1, h2, q, h3, h4⟩ := recsG_back k rs' p1 hk
       obtain ⟨q2, e1, e2, e3⟩ := getR_back h0
       simp only [Option.some.injEq, Prod.mk.injEq] at h
       obtain ⟨rfl, rfl⟩ := h
       rw [e2]
       generalize (getR l (p1 : Int) base stamp).1 = r at e1 e3 ⊢
       refine ⟨by simp [h1], ?_, q2, ?_, ?_⟩
       · intro x hx
         rcases List.mem_append.1 hx with hx | hx
         · exact h2 x hx
         · simp at hx; rw [hx]; exact e3
       · have : q = prB r base stamp ++ q2 := by rw [← e1, h4, drop_more h3]
         rw [h3, this, recsB_app, recsB_cons]
         simp [recsB]
       · rw [Int.toNat_natCast, recsB_app, recsB_cons, h4]
         simp [recsB]
         omega
     · cases h
theorem mark_back {m : UInt8} (h : m.toNat < 8) : UInt8.ofNat ((((m.toNat % 4 : Nat) : Int)).toNat + if decide (4 ≤ m.toNat) = true then 4 else 0) = m := by
 apply UInt8.toNat_inj.1
 rw [Int.toNat_natCast]
 by_cases h4 : 4 ≤ m.toNat
 · rw [if_pos (decide_eq_true h4), u8_of (by omega)]
   omega
 · rw [if_neg (by simpa using h4), u8_of (by omega)]
   omega
theorem parse_back {l : List UInt8} {x : Batch} (h : parseB 15 l = some x) : l = bodyB x := by
 unfold parseB at h
 cases hn : nums l 7 with
 | none => rw [hn] at h; cases h
 | some q =>
   obtain ⟨ns, p⟩ := q
   rw [hn] at h
   simp only [Option.bind_some] at h
   obtain ⟨hnl, hni, q0, hl0, rfl⟩ := nums_back 7 ns p hn
   unfold parse2 at h
   dsimp only at h
   cases hm : l[(headB ns).length]? with
   | none => rw [hm] at h; cases h
   | some m =>
     rw [hm] at h
     simp only [Option.bind_some] at h
     split at h
     rotate_left
     · cases h
     rename_i hc
     obtain ⟨hm8, hn0, hn1⟩ := hc
     have hd1 := drop_1 hm
     unfold parse3 at h
     split at h
     rotate_left
     · cases h
     rename_i hv
     obtain ⟨q1, e1, e2, e3⟩ := getV_back (a := (headB ns).length + 1) hv.1
     rw [show (((headB ns).length : Nat) : Int) + 1 = (((headB ns).length + 1 : Nat) : Int) from rfl] at h hv
     generalize getV l (((headB ns).length + 1 : Nat) : Int) = v at *
     obtain ⟨n, nx, er⟩ := v
     dsimp only at *
     subst e2
     generalize hsd : (if 0 < n then getV l (((headB ns).length + 1 + (pvB n).length : Nat) : Int) else (0, (((headB ns).length + 1 + (pvB n).length : Nat) : Int), 0)) = s at h
     unfold parse4 at h
     split at h
     rotate_left
     · cases h
     rename_i hs
     cases hr : recsG l (ns.getD 0 0) s.1 s.2.1.toNat n.toNat with
     | none => rw [hr] at h; cases h
     | some q =>
       obtain ⟨rs, p3⟩ := q
       rw [hr] at h
       simp only [Option.bind_some] at h
       split at h
       rotate_left
       · cases h
       rename_i hf
       obtain ⟨hp3, hso⟩ := hf
       cases h
       obtain ⟨hrl, hrc, q3, f1, f2⟩ := recsG_back _ rs p3 hr
       obtain ⟨n0, n1, n2, n3, n4, n5, n6, rfl⟩ : ∃ n0 n1 n2 n3 n4 n5 n6 : Int, ns = [n0, n1, n2, n3, n4, n5, n6] := by
         match ns, hnl with
         | [n0, n1, n2, n3, n4, n5, n6], _ => exact ⟨n0, n1, n2, n3, n4, n5, n6, rfl⟩
       have hhead : headN (mkB [n0, n1, n2, n3, n4, n5, n6] m rs) = [n0, n1, n2, n3, n4, n5, n6] := by
         have : n0 + n1 - n0 = n1 := by omega
         simp [headN, mkB, this]
       have hmark : markB (mkB [n0, n1, n2, n3, n4, n5, n6] m rs) = m := mark_back hm8
       have hlen : (rs.length : Int) = n := by omega
       have hq3 : q3 = [] := by
         have := congrArg List.length f1
         simp only [List.length_drop, List.length_append] at this
         exact List.eq_nil_of_length_eq_zero (by
           by_cases hsl : s.2.1.toNat ≤ l.length
           · omega
           · omega)
       subst hq3
       rw [List.append_nil] at f1
       have hbody : bodyB (mkB [n0, n1, n2, n3, n4, n5, n6] m rs) = headB [n0, n1, n2, n3, n4, n5, n6] ++ [m] ++ pvB n ++ tailB (mkB [n0, n1, n2, n3, n4, n5, n6] m rs) := by
         rw [bodyB, hhead, hmark]
         show _ ++ _ ++ pvB (rs.length : Int) ++ _ = _
         rw [hlen]
       rw [hbody]
       have hq0 : q0 = l.drop (headB [n0, n1, n2, n3, n4, n5, n6]).length := by rw [hl0, List.drop_left]
       have hz1 := drop_more e1
       have htail : q1 = tailB (mkB [n0, n1, n2, n3, n4, n5, n6] m rs) := by
         match rs, hrl, hso, f1 with
         | [], hrl, _, f1 =>
           have hn0' : ¬ 0 < n := by simp at hlen; omega
           rw [if_neg hn0'] at hsd
           subst hsd
           rw [Int.toNat_natCast] at f1
           dsimp only at f1
           rw [hz1] at f1
           rw [f1]
           simp [tailB, mkB, recsB]
         | r :: rs, hrl, hso, f1 =>
           have hn0' : 0 < n := by simp at hlen; omega
           rw [if_pos hn0'] at hsd
           subst hsd
           obtain ⟨q4, g1', g2', g3'⟩ := getV_back hs
           have hst : r.stamp = (getV l (((headB [n0, n1, n2, n3, n4, n5, n6]).length + 1 + (pvB n).length : Nat) : Int)).1 := by simpa [stOk] using hso
           rw [g2', Int.toNat_natCast, drop_more g1'] at f1
           rw [← hz1, g1', f1, tailB]
           simp only [mkB]
           rw [hst]
       rw [← htail, hl0]
       conv => lhs; rw [hq0, hd1, e1]
       simp
theorem bodyB_pos (x : Batch) : 0 < (bodyB x).length := by
 simp only [bodyB, List.length_append, List.length_cons, List.length_nil]
 omega
theorem parse_at {x : Batch} (hf : Form x) : parseB 15 (bodyB x) = some x := by
 have hf0 := hf
 obtain ⟨hrc, hrl⟩ := form_recs hf0
 obtain ⟨⟨f1, f2, f3⟩, ⟨f4, f5, f6⟩, ⟨f7, f8, f9, f10⟩, f11, f12, f13⟩ := hf
 simp [rng] at f1 f2 f3 f4 f5 f6
 have hi : ∀ n ∈ headN x, I64 n := by
   intro n hn
   simp [headN] at hn
   unfold I64
   omega
 have hb : bodyB x = headB (headN x) ++ (markB x :: (pvB x.recs.length ++ tailB x)) := by simp [bodyB]
 have h7 := nums_at hi hb 7 (by simp [headN])
 rw [show (headN x).take 7 = headN x from rfl] at h7
 have hctl : x.ctl = 0 ∨ x.ctl = 1 ∨ x.ctl = 2 := by
   rcases f13 with h | h
   · exact .inl h.1
   · exact .inr h.1
 have hmark : (markB x).toNat = x.ctl.toNat + (if x.txn = true then 4 else 0) := by
   rw [markB, u8_of]
   split <;> omega
 have hmk : mkB (headN x) (markB x) x.recs = x := by
   have h4 : x.base + (x.last - x.base) = x.last := by omega
   have h5 : decide (4 ≤ (markB x).toNat) = x.txn := by
     rw [hmark]
     cases x.txn
     · simp; omega
     · simp
   have h6 : (((markB x).toNat % 4 : Nat) : Int) = x.ctl := by
     rw [hmark]
     split <;> omega
   simp only [mkB, headN, List.getD_cons_zero, List.getD_cons_succ, h4, h5, h6]
 generalize bodyB x = l at hb h7 ⊢
 have hd0 : l.drop (headB (headN x)).length = markB x :: (pvB x.recs.length ++ tailB x) := by rw [hb, List.drop_left]
 have hm := at_0 hd0
 have hd1 : l.drop ((headB (headN x)).length + 1) = pvB x.recs.length ++ tailB x := drop_more (p := [markB x]) hd0
 have hv := getV_at (n := x.recs.length) (by unfold I64; omega) hd1
 have hd2 := drop_more hd1
 have hll : (l.drop ((headB (headN x)).length + 1 + (pvB (x.recs.length : Int)).length)).length = (tailB x).length := by rw [hd2]
 have hle : (headB (headN x)).length + 1 + (pvB (x.recs.length : Int)).length + (tailB x).length = l.length := by
   have := congrArg List.length hb
   simp only [List.length_append, List.length_cons] at this
   omega
 rw [parseB, h7]
 simp only [Option.bind_some]
 rw [parse2]
 dsimp only
 rw [hm]
 simp only [Option.bind_some]
 rw [if_pos ⟨by rw [hmark]; split <;> omega, by show 0 ≤ x.base ∧ x.base ≤ _; omega, by show 0 ≤ x.last - x.base ∧ x.last - x.base ≤ _; omega⟩]
 rw [show (((headB (headN x)).length : Nat) : Int) + 1 = (((headB (headN x)).length + 1 : Nat) : Int) from rfl, hv, parse3]
 dsimp only
 rw [if_pos ⟨rfl, by omega, by omega⟩, Int.toNat_natCast]
 generalize (headB (headN x)).length + 1 + (pvB (x.recs.length : Int)).length = p2 at hd2 hle
 have hbase : (headN x).getD 0 0 = x.base := rfl
 cases hr : x.recs with
 | nil =>
   rw [hr] at hmk
   have ht : tailB x = [] := by rw [tailB, hr]
   rw [if_neg (by simp), parse4, if_pos rfl, Int.toNat_natCast]
   simp only [List.length_nil, recsG, Option.bind_some]
   rw [if_pos ⟨by rw [ht] at hle; simpa using hle, rfl⟩, hmk]
 | cons r rs =>
   have ht : tailB x = pvB r.stamp ++ recsB x.base r.stamp (r :: rs) := by rw [tailB, hr]
   have hc0 := chk_small (hrc r (by rw [hr]; simp))
   have hsi := inO_iff.1 hc0.1.2
   rw [ht] at hd2 hle
   have hv2 := getV_at (n := r.stamp) (by unfold I64; omega) hd2
   have hd3 := drop_more hd2
   have hg := recsG_at (q := []) (inO_iff.2 f1) hc0.1.2 (fun y hy => hrc y (by rw [hr]; exact hy)) (by rw [hd3, List.append_nil]) (r :: rs).length (Nat.le_refl _)
   rw [List.take_length] at hg
   rw [if_pos (by simp only [List.length_cons]; omega), hv2, parse4]
   dsimp only
   rw [if_pos rfl, Int.toNat_natCast, hbase, hg]
   simp only [Option.bind_some]
   rw [if_pos ⟨by simp only [List.length_append] at hle; omega, by simp [stOk]⟩, ← hr, hmk]
theorem openB_at (b : List UInt8) : openB (sealB b) = (b, 0) := by
 have hl := sealB_len b
 have h1 : (sealB b).take ((sealB b).length - 4) = b := by
   rw [hl, Nat.add_sub_cancel, sealB, List.take_left]
 have h2 : (sealB b).drop ((sealB b).length - 4) = putN (crcB b).toNat 4 := by
   rw [hl, Nat.add_sub_cancel, sealB, List.drop_left]
 rw [openB, if_neg (by omega), h1, h2, if_pos rfl]
theorem openB_back {l : List UInt8} (h : (openB l).2 = 0) : l = sealB (openB l).1 := by
 unfold openB at h ⊢
 split at h
 · cases h
 · rename_i h0
   rw [if_neg h0]
   split at h
   · rename_i h1
     rw [if_pos h1]
     dsimp only
     conv => lhs; rw [← List.take_append_drop (l.length - 4) l, h1]
     rfl
   · cases h
theorem bytesB_pos (x : Batch) : 9 ≤ (bytesB x).length := by
 have := bodyB_pos x
 rw [bytesB_len]
 omega
theorem getB_at {l q : List UInt8} {a : Nat} {x : Batch} (h0 : errB x = 0) (h : l.drop a = bytesB x ++ q) : getB l (a : Int) = (x, ((a + (bytesB x).length : Nat) : Int), 0) := by
 obtain ⟨hf, hbl⟩ := errB_ok h0
 have hbp := bytesB_pos x
 have hb8 := bytesB_len x
 have hsl := sealB_len (bodyB x)
 have hd : l.drop a = putN (sealB (bodyB x)).length 4 ++ (sealB (bodyB x) ++ q) := by rw [h, bytesB, List.append_assoc]
 have hd4 : l.drop (a + 4) = sealB (bodyB x) ++ q := by
   have := drop_more hd
   rwa [putN_len] at this
 have hn : getN l (a : Int) 4 = ((sealB (bodyB x)).length, 0) := by
   rw [getN_nat, hd, if_neg (by simp [putN_len]), List.take_left' (putN_len _ _), numB_putN 4 _ (by omega)]
 rw [getB, hn]
 dsimp only
 rw [if_pos rfl, if_pos ⟨by omega, by omega⟩, Int.toNat_natCast, hd4, if_pos (by simp), List.take_left, openB_at]
 dsimp only
 rw [if_pos rfl, chkP_some (parse_at hf) h0]
 dsimp only
 refine Prod.ext rfl (Prod.ext ?_ rfl)
 dsimp only
 omega
theorem getB_back {l : List UInt8} {a : Int} (h : (getB l a).2.2 = 0) : ∃ (b : Nat) (q : List UInt8), a = b ∧ l.drop b = bytesB (getB l a).1 ++ q ∧ (getB l a).2.1 = ((b + (bytesB (getB l a).1).length : Nat) : Int) ∧ errB (getB l a).1 = 0 := by
 unfold getB at h ⊢
 split at h
 rotate_left
 · rename_i h0; exact absurd h h0
 rename_i h0
 rw [if_pos h0]
 split at h
 rotate_left
 · cases h
 rename_i h1
 rw [if_pos h1]
 split at h
 rotate_left
 · cases h
 rename_i h2
 rw [if_pos h2]
 split at h
 rotate_left
 · rename_i h3; exact absurd h h3
 rename_i h3
 rw [if_pos h3]
 obtain ⟨ha, hal⟩ := (getN_ok h0).resolve_right (by decide)
 obtain ⟨b, rfl⟩ : ∃ n : Nat, a = n := ⟨a.toNat, by omega⟩
 rw [Int.toNat_natCast] at *
 have hs := openB_back h3
 cases hp : chkP 15 (openB ((l.drop (b + 4)).take (getN l (b : Int) 4).1)).1 with
 | none => rw [hp] at h; cases h
 | some x =>
   rw [hp] at h
   dsimp only
   rw [chkP] at hp
   cases hq : parseB 15 (openB ((l.drop (b + 4)).take (getN l (b : Int) 4).1)).1 with
   | none => rw [hq] at hp; cases hp
   | some y =>
     rw [hq] at hp
     simp only [Option.bind_some] at hp
     split at hp
     rotate_left
     · cases hp
     rename_i h4
     cases hp
     have hb := parse_back hq
     rw [hb] at hs
     have hn : getN l (b : Int) 4 = (numB ((l.drop b).take 4), 0) := by
       rw [getN_nat, if_neg (by simp; omega)]
     have hlen : (getN l (b : Int) 4).1 = (sealB (bodyB x)).length := by
       rw [← hs]
       simp only [List.length_take]
       omega
     have hd4 : l.drop (b + 4) = sealB (bodyB x) ++ (l.drop (b + 4)).drop (getN l (b : Int) 4).1 := by
       conv => lhs; rw [← List.take_append_drop (getN l (b : Int) 4).1 (l.drop (b + 4)), hs]
     have hd : l.drop b = (l.drop b).take 4 ++ l.drop (b + 4) := by
       rw [← List.drop_drop]
       exact (List.take_append_drop 4 _).symm
     have h44 : (l.drop b).take 4 = putN (sealB (bodyB x)).length 4 := by
       rw [← hlen, hn]
       exact (putN_numB 4 _ (by simp; omega)).symm
     refine ⟨b, (l.drop (b + 4)).drop (getN l (b : Int) 4).1, rfl, ?_, ?_, h4⟩
     · rw [bytesB, List.append_assoc, ← hd4, ← h44]
       exact hd
     · rw [bytesB, List.length_append, putN_len, ← hlen]
       omega
def allB (l : List Batch) : List UInt8 := l.flatMap bytesB
theorem allB_take {l : List Batch} {k : Nat} {x : Batch} (hx : l[k]? = some x) : allB (l.take (k + 1)) = allB (l.take k) ++ bytesB x := by
 unfold allB
 rw [List.take_add_one, hx]
 simp [List.flatMap_append]
theorem allB_drop {l : List Batch} {k : Nat} {x : Batch} (hx : l[k]? = some x) : (allB l).drop (allB (l.take k)).length = bytesB x ++ allB (l.drop (k + 1)) := by
 obtain ⟨hk, he⟩ := List.getElem?_eq_some_iff.1 hx
 have h1 : allB l = allB (l.take k) ++ (bytesB x ++ allB (l.drop (k + 1))) := by
   conv => lhs; rw [← List.take_append_drop k l, List.drop_eq_getElem_cons hk, he]
   simp [allB, List.flatMap_append]
 rw [h1, List.drop_left]
theorem stp_0 {v : W32} (h : stp v = 0#32) : v = 0#32 := by
 cases hb : v.getLsbD 0 with
 | true =>
   exfalso
   rw [stp, if_pos hb] at h
   have h2 : ((v >>> 1) ^^^ poly).getLsbD 31 = (0#32).getLsbD 31 := by rw [h]
   rw [BitVec.getLsbD_xor, BitVec.getLsbD_ushiftRight] at h2
   have h3 : v.getLsbD (1 + 31) = false := BitVec.getLsbD_of_ge _ _ (by omega)
   rw [h3] at h2
   exact absurd h2 (by decide)
 | false =>
   rw [stp_even hb] at h
   have h1 : (v >>> 1).toNat = 0 := by rw [h]; rfl
   rw [BitVec.toNat_ushiftRight, Nat.shiftRight_eq_div_pow] at h1
   have h2 : ¬ v.toNat % 2 = 1 := fun hh => by rw [(bit0 v).2 hh] at hb; cases hb
   apply BitVec.eq_of_toNat_eq
   show v.toNat = 0
   omega
structure Sg where
 base : Int
 bytes : List UInt8
deriving DecidableEq
def ordB : Int → List Batch → Prop
 | _, [] => True
 | nx, x :: xs => nx ≤ x.base ∧ ordB (x.last + 1) xs
def nextB : Int → List Batch → Int
 | nx, [] => nx
 | _, x :: xs => nextB (x.last + 1) xs
def moreB (q : List UInt8) (nx : Int) : Prop := (getB q 0).2.2 = 0 ∧ nx ≤ (getB q 0).1.base
instance (q : List UInt8) (nx : Int) : Decidable (moreB q nx) := by unfold moreB; infer_instance
def scanF : Nat → Int → List UInt8 → List Batch
 | 0, _, _ => []
 | f + 1, nx, q => if moreB q nx then (getB q 0).1 :: scanF f ((getB q 0).1.last + 1) (q.drop (bytesB (getB q 0).1).length) else []
structure Scans (nx : Int) (q : List UInt8) (bs : List Batch) (r : List UInt8) : Prop where
 eq : q = allB bs ++ r
 ok : ∀ x ∈ bs, errB x = 0
 ord : ordB nx bs
 stop : ¬ moreB r (nextB nx bs)
def scanB (s : Sg) : List Batch := scanF s.bytes.length s.base s.bytes
def goodB (s : Sg) : Nat := (allB (scanB s)).length
def endB (s : Sg) : Int := nextB s.base (scanB s)
theorem allB_cons (x : Batch) (l : List Batch) : allB (x :: l) = bytesB x ++ allB l := rfl
theorem allB_app (a b : List Batch) : allB (a ++ b) = allB a ++ allB b := by simp [allB]
theorem nextB_app (nx : Int) (a b : List Batch) : nextB nx (a ++ b) = nextB (nextB nx a) b := by
 induction a generalizing nx with
 | nil => rfl
 | cons x a ih => exact ih _
theorem ordB_app (nx : Int) (a b : List Batch) : ordB nx (a ++ b) ↔ ordB nx a ∧ ordB (nextB nx a) b := by
 induction a generalizing nx with
 | nil => simp [ordB, nextB]
 | cons x a ih => simp only [List.cons_append, ordB, nextB, ih, and_assoc]
theorem getB_0 {q s : List UInt8} {x : Batch} (h0 : errB x = 0) (h : q = bytesB x ++ s) : getB q 0 = (x, ((bytesB x).length : Int), 0) := by
 have := getB_at (l := q) (a := 0) h0 h
 rw [Nat.zero_add] at this
 exact this
theorem more_ok {q : List UInt8} {nx : Int} (h : moreB q nx) : ∃ x s, getB q 0 = (x, ((bytesB x).length : Int), 0) ∧ q = bytesB x ++ s ∧ errB x = 0 ∧ nx ≤ x.base := by
 obtain ⟨h1, h2⟩ := h
 obtain ⟨b, s, e0, e1, e2, e3⟩ := getB_back h1
 have hb : b = 0 := by omega
 subst hb
 exact ⟨_, s, getB_0 e3 e1, e1, e3, h2⟩
theorem more_at {q s : List UInt8} {x : Batch} {nx : Int} (h0 : errB x = 0) (h : q = bytesB x ++ s) : moreB q nx ↔ nx ≤ x.base := by
 rw [moreB, getB_0 h0 h]
 simp
theorem scanF_spec : ∀ (f : Nat) (nx : Int) (q : List UInt8), q.length ≤ f → ∃ r, Scans nx q (scanF f nx q) r
 | 0, nx, q, h => by
   have hq : q = [] := List.eq_nil_of_length_eq_zero (by omega)
   subst hq
   refine ⟨[], ⟨rfl, fun x hx => (by cases hx), trivial, fun hm => ?_⟩⟩
   obtain ⟨x, s, -, e, -⟩ := more_ok hm
   have := bytesB_pos x
   have h2 := congrArg List.length e
   simp at h2
   omega
 | f + 1, nx, q, h => by
   unfold scanF
   split
   · rename_i hm
     obtain ⟨x, s, e1, e2, e3, e4⟩ := more_ok hm
     rw [e1]
     dsimp only
     have hp := bytesB_pos x
     have hd : q.drop (bytesB x).length = s := by rw [e2, List.drop_left]
     rw [hd]
     obtain ⟨r, hr⟩ := scanF_spec f (x.last + 1) s (by rw [e2, List.length_append] at h; omega)
     refine ⟨r, ⟨by rw [allB_cons, List.append_assoc, ← hr.eq, e2], fun y hy => ?_, ⟨e4, hr.ord⟩, hr.stop⟩⟩
     rcases List.mem_cons.1 hy with rfl | hy
     · exact e3
     · exact hr.ok y hy
   · rename_i hm
     exact ⟨q, ⟨rfl, fun x hx => (by cases hx), trivial, hm⟩⟩
theorem scan_spec (s : Sg) : ∃ r, Scans s.base s.bytes (scanB s) r := scanF_spec _ _ _ (Nat.le_refl _)
theorem Scans.uniq : ∀ {bs bs' : List Batch} {nx : Int} {q r r' : List UInt8}, Scans nx q bs r → Scans nx q bs' r' → bs = bs' ∧ r = r'
 | [], [], nx, q, r, r', h, h' => ⟨rfl, by have := h.eq.symm.trans h'.eq; exact this⟩
 | [], x :: bs', nx, q, r, r', h, h' => by
   have hq : q = r := h.eq
   subst hq
   exact absurd ((more_at (h'.ok x (.head _)) (by rw [h'.eq, allB_cons, List.append_assoc])).2 h'.ord.1) h.stop
 | x :: bs, [], nx, q, r, r', h, h' => by
   have hq : q = r' := h'.eq
   subst hq
   exact absurd ((more_at (h.ok x (.head _)) (by rw [h.eq, allB_cons, List.append_assoc])).2 h.ord.1) h'.stop
 | x :: bs, y :: bs', nx, q, r, r', h, h' => by
   have e1 : q = bytesB x ++ (allB bs ++ r) := by rw [h.eq, allB_cons, List.append_assoc]
   have e2 : q = bytesB y ++ (allB bs' ++ r') := by rw [h'.eq, allB_cons, List.append_assoc]
   have g1 := getB_0 (h.ok x (.head _)) e1
   have g2 := getB_0 (h'.ok y (.head _)) e2
   rw [g1] at g2
   have hxy : x = y := congrArg Prod.fst g2
   subst hxy
   rw [e1] at e2
   have e3 := List.append_cancel_left e2
   obtain ⟨rfl, rfl⟩ := Scans.uniq (nx := x.last + 1) (q := allB bs ++ r) ⟨rfl, fun z hz => h.ok z (.tail _ hz), h.ord.2, h.stop⟩ ⟨e3, fun z hz => h'.ok z (.tail _ hz), h'.ord.2, h'.stop⟩
   exact ⟨rfl, rfl⟩
theorem Scans.is {s : Sg} {bs : List Batch} {r : List UInt8} (h : Scans s.base s.bytes bs r) : scanB s = bs := by
 obtain ⟨r', h'⟩ := scan_spec s
 exact (h'.uniq h).1
theorem getB_drop {l : List UInt8} {a : Nat} : (getB l (a : Int)).1 = (getB (l.drop a) 0).1 ∧ (getB l (a : Int)).2.2 = (getB (l.drop a) 0).2.2 := by
 have h1 : getN l (a : Int) 4 = getN (l.drop a) 0 4 := by
   unfold getN
   rw [if_neg (show ¬ (a : Int) < 0 by omega), if_neg (show ¬ (0 : Int) < 0 by omega)]
   simp only [Int.toNat_natCast, Int.toNat_zero, List.drop_zero]
 have h2 : l.drop (a + 4) = (l.drop a).drop 4 := by rw [List.drop_drop]
 unfold getB
 rw [h1]
 simp only [Int.toNat_natCast, h2, Int.toNat_zero, Nat.zero_add]
 split
 · split
   · split
     · split
       · split <;> exact ⟨rfl, rfl⟩
       · exact ⟨rfl, rfl⟩
     · exact ⟨rfl, rfl⟩
   · exact ⟨rfl, rfl⟩
 · exact ⟨rfl, rfl⟩
theorem allB_take_le (l : List Batch) (k : Nat) : (allB (l.take k)).length ≤ (allB l).length := by
 conv => rhs; rw [← List.take_append_drop k l, allB_app, List.length_append]
 omega
theorem Scans.len {nx : Int} {q r : List UInt8} {bs : List Batch} (h : Scans nx q bs r) : 9 * bs.length ≤ (allB bs).length ∧ (allB bs).length ≤ q.length := by
 refine ⟨?_, by rw [h.eq, List.length_append]; omega⟩
 clear h
 induction bs with
 | nil => simp
 | cons x bs ih =>
   have := bytesB_pos x
   rw [allB_cons, List.length_append, List.length_cons]
   omega
theorem Scans.at_ {nx : Int} {q r : List UInt8} {bs : List Batch} (h : Scans nx q bs r) {k : Nat} {x : Batch} (hx : bs[k]? = some x) :
   getB q (((allB (bs.take k)).length : Nat) : Int) = (x, (((allB (bs.take (k + 1))).length : Nat) : Int), 0) ∧ nextB nx (bs.take k) ≤ x.base ∧ nextB nx (bs.take (k + 1)) = x.last + 1 ∧ errB x = 0 := by
 have hd : q.drop (allB (bs.take k)).length = bytesB x ++ (allB (bs.drop (k + 1)) ++ r) := by
   have := allB_drop hx
   rw [h.eq, List.drop_append_of_le_length (allB_take_le _ _), this, List.append_assoc]
 obtain ⟨hk, he⟩ := List.getElem?_eq_some_iff.1 hx
 have e1 : bs = bs.take k ++ (x :: bs.drop (k + 1)) := by
   conv => lhs; rw [← List.take_append_drop k bs, List.drop_eq_getElem_cons hk, he]
 have ho := h.ord
 rw [e1, ordB_app] at ho
 have h0 := h.ok x (List.mem_of_getElem? hx)
 refine ⟨?_, ho.2.1, ?_, h0⟩
 · rw [getB_at h0 hd, allB_take hx, List.length_append]
 · rw [List.take_add_one, hx]
   show nextB nx (bs.take k ++ [x]) = _
   rw [nextB_app]
   rfl
theorem Scans.end_ {nx : Int} {q r : List UInt8} {bs : List Batch} (h : Scans nx q bs r) : ¬ (getB q (((allB bs).length : Nat) : Int)).2.2 = 0 ∨ (getB q (((allB bs).length : Nat) : Int)).1.base < nextB nx bs := by
 have hs := h.stop
 have hd := @getB_drop q (allB bs).length
 have e : q.drop (allB bs).length = r := by rw [h.eq, List.drop_left]
 rw [e] at hd
 rw [hd.1, hd.2]
 unfold moreB at hs
 by_cases h0 : (getB r 0).2.2 = 0
 · right
   have : ¬ nextB nx bs ≤ (getB r 0).1.base := fun hh => hs ⟨h0, hh⟩
   omega
 · exact .inl h0
end Go.Proofs.Ytedljandnpigpaa

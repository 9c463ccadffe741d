/- Parts of a proof, 22 texts in one file. No condition. -/
import Derived.Test.YtppgnokhdpaljaaGreatRows
import Derived.WalkKit
import Derived.ProofKit
import Derived.OpenShut
import Derived.ShutString
import Derived.ChangeOld
import Derived.ChangeSame
import Derived.Below
import Derived.Test.YtppgnokhdpaljaaGreatM1
import Derived.Test.YtppgnokhdpaljaaGreatM2
import Derived.Test.YtppgnokhdpaljaaGreatM3
import Derived.Test.YtppgnokhdpaljaaGreatM4
import Derived.Test.YtppgnokhdpaljaaGreatM5
set_option linter.unusedSimpArgs false
set_option linter.unusedVariables false
namespace Go.Proofs.YtppgnokhdpaljaaGreat
open Go Go.Kx Go.ChangeShapes Go.WideShapes Go.ChangeAt Go.RowKit
theorem own : ownKnob Tryz.prog.godebug = none := by kernel_rfl
theorem laidOut : laidOutB Tryz.prog = true := by kernel_rfl
theorem opens_rec (W : World) : Opens Tryz.prog W 65 RR := fun H enc fuel cs x hx => by
 obtain ⟨hl, hf⟩ := opens_fields Tryz.underlying65 (by kernel_rfl) (by kernel_rfl) hx
 obtain ⟨v0, _, _, c0, t0⟩ := hf 0 _ rfl
 obtain ⟨v1, _, _, c1, t1⟩ := hf 1 _ rfl
 obtain ⟨v2, _, _, c2, t2⟩ := hf 2 _ rfl
 obtain ⟨v3, _, _, c3, t3⟩ := hf 3 _ rfl
 obtain ⟨v4, _, _, c4, t4⟩ := hf 4 _ rfl
 obtain ⟨n0, e0, w0⟩ := (opens_int Tryz.underlying3).at_ t0
 obtain ⟨n1, e1, w1⟩ := (opens_string Tryz.underlying9).at_ t1
 obtain ⟨n2, e2, w2⟩ := (opens_string Tryz.underlying9).at_ t2
 obtain ⟨n3, e3⟩ := (opens_bool Tryz.underlying4).at_ t3
 obtain ⟨n4, e4, w4⟩ := (opens_int Tryz.underlying3).at_ t4
 cases e0; cases e1; cases e2; cases e3; cases e4
 refine ⟨⟨n0, n1, n2, n3, n4⟩, ?_, ⟨wf_i64 w0, wf_i64 w4⟩, w1, w2⟩
 match cs, hl with
 | [_, _, _, _, _], _ => cases c0; cases c1; cases c2; cases c3; cases c4; rfl
theorem opens_recs (W : World) : Opens Tryz.prog W 37 (fun (l : List Rec) cs => ∃ A c, cs = [.slice A l.length c] ∧ l.length ≤ c ∧ c ≤ maxLen ∧ SlA (allG W) RR 5 A l) :=
 opens_slice Tryz.underlying37 (by kernel_rfl) (opens_rec W)
theorem opens_batch (W : World) : Opens Tryz.prog W 39 (BE (allG W)) := fun H enc fuel cs x hx => by
 obtain ⟨hl, hf⟩ := opens_fields Tryz.underlying39 (by kernel_rfl) (by kernel_rfl) hx
 obtain ⟨v0, _, _, c0, t0⟩ := hf 0 _ rfl
 obtain ⟨v1, _, _, c1, t1⟩ := hf 1 _ rfl
 obtain ⟨v2, _, _, c2, t2⟩ := hf 2 _ rfl
 obtain ⟨v3, _, _, c3, t3⟩ := hf 3 _ rfl
 obtain ⟨v4, _, _, c4, t4⟩ := hf 4 _ rfl
 obtain ⟨v5, _, _, c5, t5⟩ := hf 5 _ rfl
 obtain ⟨v6, _, _, c6, t6⟩ := hf 6 _ rfl
 obtain ⟨v7, _, _, c7, t7⟩ := hf 7 _ rfl
 obtain ⟨v8, _, _, c8, t8⟩ := hf 8 _ rfl
 obtain ⟨v9, _, _, c9, t9⟩ := hf 9 _ rfl
 obtain ⟨n0, e0, w0⟩ := (opens_int Tryz.underlying3).at_ t0
 obtain ⟨n1, e1, w1⟩ := (opens_int Tryz.underlying3).at_ t1
 obtain ⟨n2, e2, w2⟩ := (opens_int Tryz.underlying3).at_ t2
 obtain ⟨n3, e3, w3⟩ := (opens_int Tryz.underlying3).at_ t3
 obtain ⟨n4, e4, w4⟩ := (opens_int Tryz.underlying3).at_ t4
 obtain ⟨n5, e5, w5⟩ := (opens_int Tryz.underlying3).at_ t5
 obtain ⟨n6, e6, w6⟩ := (opens_int Tryz.underlying3).at_ t6
 obtain ⟨n7, e7⟩ := (opens_bool Tryz.underlying4).at_ t7
 obtain ⟨n8, e8, w8⟩ := (opens_int Tryz.underlying3).at_ t8
 obtain ⟨n9, A, c, e9, w9⟩ := (opens_recs W).at_ t9
 cases e0; cases e1; cases e2; cases e3; cases e4; cases e5; cases e6; cases e7; cases e8; cases e9
 refine ⟨⟨n0, n1, n2, n3, n4, n5, n6, n7, n8, n9⟩, A, c, ?_, w9, wf_i64 w0, wf_i64 w1, wf_i64 w2, wf_i64 w3, wf_i64 w4, wf_i64 w5, wf_i64 w6, wf_i64 w8⟩
 match cs, hl with
 | [_, _, _, _, _, _, _, _, _, _], _ => cases c0; cases c1; cases c2; cases c3; cases c4; cases c5; cases c6; cases c7; cases c8; cases c9; rfl
theorem opens_byte (W : World) : Opens Tryz.prog W 5 UE := (opens_int Tryz.underlying5).mono fun n cs ⟨h1, h2⟩ => ⟨UInt8.ofNat n.toNat, by rw [UE, ← wf_u8 h2]; exact h1⟩
theorem opens_bytes (W : World) : Opens Tryz.prog W 53 (fun (l : List UInt8) cs => ∃ A c, cs = [.slice A l.length c] ∧ l.length ≤ c ∧ c ≤ maxLen ∧ SlA (allG W) UE 1 A l) :=
 opens_slice Tryz.underlying53 (by kernel_rfl) (opens_byte W)
theorem opens_batches (W : World) : Opens Tryz.prog W 33 (fun (l : List Batch) cs => ∃ A c, cs = [.slice A l.length c] ∧ l.length ≤ c ∧ c ≤ maxLen ∧ SlA (allG W) (BE (allG W)) 10 A l) :=
 opens_slice Tryz.underlying33 (by kernel_rfl) (opens_batch W)
end Go.Proofs.YtppgnokhdpaljaaGreat
namespace Go.Proofs.YtppgnokhdpaljaaGreat
open Go Go.Kx
theorem F128 : Fun Tryz.prog 128 11 v128 c128 o128 := Fun.mkA Tryz.func128 Tryz.ntmps128
theorem F117 : Fun Tryz.prog 117 44 v117 c117 o117 := Fun.mkA Tryz.func117 Tryz.ntmps117
theorem F104 : Fun Tryz.prog 104 48 v104 c104 o104 := Fun.mkA Tryz.func104 Tryz.ntmps104
theorem F141 : Fun Tryz.prog 141 25 v141 c141 o141 := Fun.mkA Tryz.func141 Tryz.ntmps141
theorem ofInt64 {a : Nat} (ha : a < 18446744073709551616) : (BitVec.ofInt 64 (a : Int)).toNat = a := by
 rw [BitVec.ofInt_natCast, BitVec.toNat_ofNat]
 exact Nat.mod_eq_of_lt ha
theorem wrap64 {a : Nat} (ha : a < 18446744073709551616) : IntKind.u64.wrap (a : Int) = (a : Int) := by
 rw [IntKind.wrap_u64]
 omega
theorem bin_and64 {a b : Nat} (ha : a < 18446744073709551616) (hb : b < 18446744073709551616) : binV .and (.int .u64 (a : Int)) (.int .u64 (b : Int)) = some (.int .u64 ((a &&& b : Nat) : Int)) := by
 simp only [binV]
 rw [if_pos trivial]
 have : (BitVec.ofInt IntKind.u64.bits (a : Int) &&& BitVec.ofInt IntKind.u64.bits (b : Int)).toNat = a &&& b := by
  show (BitVec.ofInt 64 (a : Int) &&& BitVec.ofInt 64 (b : Int)).toNat = _
  rw [BitVec.toNat_and, ofInt64 ha, ofInt64 hb]
 rw [this, wrap64 (Nat.lt_of_le_of_lt Nat.and_le_left ha)]
theorem bin_or64 {a b : Nat} (ha : a < 18446744073709551616) (hb : b < 18446744073709551616) : binV .or (.int .u64 (a : Int)) (.int .u64 (b : Int)) = some (.int .u64 ((a ||| b : Nat) : Int)) := by
 simp only [binV]
 rw [if_pos trivial]
 have : (BitVec.ofInt IntKind.u64.bits (a : Int) ||| BitVec.ofInt IntKind.u64.bits (b : Int)).toNat = a ||| b := by
  show (BitVec.ofInt 64 (a : Int) ||| BitVec.ofInt 64 (b : Int)).toNat = _
  rw [BitVec.toNat_or, ofInt64 ha, ofInt64 hb]
 rw [this, wrap64]
 exact Nat.or_lt_two_pow (n := 64) ha hb
theorem bin_shl64 {a s : Nat} (hs : s ≤ 64) (h : a * 2 ^ s < 18446744073709551616) (k : IntKind) : binV .shl (.int .u64 (a : Int)) (.int k (s : Int)) = some (.int .u64 ((a * 2 ^ s : Nat) : Int)) := by
 simp only [binV]
 rw [if_pos (by omega)]
 have h1 : min ((s : Int)).toNat IntKind.u64.bits = s := by simp [IntKind.bits]; omega
 rw [h1]
 have h2 : (a : Int) * 2 ^ s = ((a * 2 ^ s : Nat) : Int) := by push_cast; rfl
 rw [h2, wrap64 h]
theorem or_apart {a b n : Nat} (hb : b < 2 ^ n) : a * 2 ^ n ||| b = a * 2 ^ n + b := by
 rw [Nat.mul_comm]
 exact (Nat.two_pow_add_eq_or_of_lt hb a).symm
theorem and_127 (x : UInt8) : binV .and (.int .u8 (x.toNat : Int)) (.int .u8 127) = some (.int .u8 ((x.toNat % 128 : Nat) : Int)) := by
 have key : ∀ b : Fin 256, (BitVec.ofInt 8 ((b.val : Nat) : Int) &&& BitVec.ofInt 8 127).toNat = b.val % 128 := by decide +kernel
 have h2 := key ⟨x.toNat, x.toNat_lt⟩
 simp only [binV]
 rw [if_pos trivial]
 have h3 : (BitVec.ofInt IntKind.u8.bits (x.toNat : Int) &&& BitVec.ofInt IntKind.u8.bits 127).toNat = x.toNat % 128 := h2
 rw [h3, IntKind.wrap_u8]
 congr 2
 omega
theorem cv_u8 (x : Nat) (hx : x < 256) : IntKind.u64.wrap (x : Int) = (x : Int) := wrap64 (by omega)
theorem slY_v {α : Type} {E : α → List Value → Prop} {G : Nat → Option Obj} {sz : Nat} {P : Program} {d : Nat} {l : List SI} {e : Env} {h : H} {K : Env → H → Prop} {A : Option Addr} {n c : Nat} {xs : List α} {lw u m : Int} (lo hi mx : Nat) (hl : SlV G E sz (.slice A n c) xs) (h1 : lw = lo) (h2 : u = hi) (h3 : m = mx)
  (h4 : lo ≤ hi ∧ hi ≤ xs.length ∧ hi ≤ mx ∧ mx ≤ c) (hk : ∀ B, SlV G E sz (.slice B ((xs.take hi).drop lo).length (mx - lo)) ((xs.take hi).drop lo) → kR P l d e K (.slice B ((xs.take hi).drop lo).length (mx - lo)) h) : slY P A c (some lw) (some u) (some m) sz d l e h K := by
 subst h1 h2 h3
 obtain ⟨A', c', he, hc, hm, hA⟩ := hl
 cases he
 have hlen : ((xs.take hi).drop lo).length = hi - lo := by simp; omega
 refine ⟨by omega, ?_⟩
 have := hk (if ((mx : Nat) : Int).toNat = ((lo : Nat) : Int).toNat then A else A.map (·.add (((lo : Nat) : Int).toNat * sz))) ⟨_, _, rfl, by omega, by omega, ?_⟩
 ·rw [hlen] at this
  simpa using this
 ·refine hA.cut (by omega) fun hlt => ?_
  rw [if_neg (by simp; omega)]
  simp
theorem SlV.pre {α : Type} {E : α → List Value → Prop} {G : Nat → Option Obj} {sz : Nat} {A : Option Addr} {n c : Nat} {xs : List α} (hi : Nat) (hl : SlV G E sz (.slice A n c) xs) (h : hi ≤ xs.length) : SlV G E sz (.slice A hi c) (xs.take hi) := by
 obtain ⟨A', c', he, hc, hm, hA⟩ := hl
 cases he
 have hlen : (xs.take hi).length = hi := by simp; omega
 refine ⟨A, c, by rw [hlen], by omega, hm, ?_⟩
 have := hA.cut (l := 0) (n := hi) (B := A) h fun _ => by cases A <;> simp [Addr.add]
 simpa using this
def numB (l : List UInt8) : Nat := l.foldl (fun n x => n * 256 + x.toNat) 0
theorem fold_lt : ∀ (l : List UInt8) (n k : Nat), n < 256 ^ k → l.foldl (fun n x => n * 256 + x.toNat) n < 256 ^ (k + l.length)
 | [], n, k, h => by simpa using h
 | x :: l, n, k, h => by
  have hx := x.toNat_lt
  have := fold_lt l (n * 256 + x.toNat) (k + 1) (by rw [Nat.pow_succ]; omega)
  rw [List.foldl_cons, List.length_cons, show k + (l.length + 1) = k + 1 + l.length by omega]
  exact this
theorem numB_lt (l : List UInt8) : numB l < 256 ^ l.length := by
 have := fold_lt l 0 0 (by simp)
 simpa [numB] using this
theorem numB_succ {l : List UInt8} {k : Nat} {x : UInt8} (hx : l[k]? = some x) : numB (l.take (k + 1)) = numB (l.take k) * 256 + x.toNat := by
 have h := List.getElem?_eq_some_iff.1 hx
 rw [List.take_succ_eq_append_getElem h.1, h.2]
 simp [numB]
theorem numB_7 {l : List UInt8} (h : l.length ≤ 7) : numB l < 72057594037927936 := by
 have := numB_lt l
 have h2 : 256 ^ l.length ≤ 256 ^ 7 := Nat.pow_le_pow_right (by decide) h
 omega
def getN (l : List UInt8) (a : Int) (k : Nat) : Nat × Int := if a < 0 then (0, 1) else if (l.drop a.toNat).length < k then (0, 10) else (numB ((l.drop a.toNat).take k), 0)
theorem from_ok (l : List UInt8) (a : Nat) (v : Value) (G : Nat → Option Obj) (hl : SB G v l) : FnE Tryz.prog 128 #[v, .int .i64 (a : Int)] G (fun r => SB G r (l.drop a)) := by
 obtain ⟨A, c, rfl, hA⟩ := id hl
 refine F128.fnE (by simp) (go_of ?_)
 unfold c128
 intros; refine gr 0 0 ?_; refine sJ c128r0.eq_1 ?_
 have hmin : min (a : Int) l.length = ((min a l.length : Nat) : Int) := by omega
 intros; refine gr 5 11 ?_; refine sJ2 c128r1.eq_1 @hmin ?_
 refine slY_v (min a l.length) l.length c hl rfl rfl rfl (by have := hA.1; omega) fun B hB => ?_
 have he : (l.take l.length).drop (min a l.length) = l.drop a := by
  rw [List.take_length]
  by_cases h : a ≤ l.length
  ·rw [Nat.min_eq_left h]
  ·rw [Nat.min_eq_right (by omega), List.drop_length, List.drop_of_length_le (by omega)]
 rw [he] at hB ⊢
 refine sI ?_
 intros; refine rV ?_; simp only [push_cast, Nat.reduceBEq]
 exact hB
theorem getN_neg {l : List UInt8} {a : Int} {k : Nat} (h : a < 0) : getN l a k = (0, 1) := if_pos h
theorem getN_nat (l : List UInt8) (a k : Nat) : getN l (a : Int) k = if (l.drop a).length < k then (0, 10) else (numB ((l.drop a).take k), 0) := by
 rw [getN, if_neg (by omega)]
 rfl
theorem NGet_ok (l : List UInt8) (a : Int) (k : Nat) (hk : 1 ≤ k ∧ k ≤ 8) (v : Value) (G : Nat → Option Obj) (hl : SB G v l) :
  FnS Tryz.prog 117 #[v, .int .i64 a, .int .i64 (k : Int)] G (.tuple #[.int .u64 ((getN l a k).1 : Int), .int .i64 (getN l a k).2]) := by
 obtain ⟨A, c, rfl, hA⟩ := id hl
 refine F117.fnS (by simp) (go_of ?_)
 unfold c117
 intros; refine gr 0 0 ?_; refine sJ c117r0.eq_1 ?_
 intros; refine gr 12 21 ?_; refine sJ c117r1.eq_1 ?_
 refine gd (fun h1 => absurd (of_decide_eq_true h1) (by omega)) (fun h1 => ?_)
 refine sI ?_
 have h2 : decide ((8 : Int) < (k : Int)) = false := decide_eq_false (by omega)
 refine sJ @h2 ?_
 intros; refine gc ?_; refine sI ?_
 refine gb (fun h3 => ?_) (fun h3 => ?_)
 ·have h3 := of_decide_eq_true h3
  intros; refine gr 0 0 ?_; refine sJ c117r2.eq_1 ?_
  intros; refine rV ?_; simp only [push_cast, Nat.reduceBEq]
  rw [getN_neg h3]
  rfl
 have h3 := of_decide_eq_false h3
 obtain ⟨a, rfl⟩ : ∃ n : Nat, a = n := ⟨a.toNat, by omega⟩
 rw [getN_nat]
 intros; refine gN ?_
 intros; refine gr 22 25 ?_; refine sJ c117r3.eq_1 ?_
 refine (from_ok l a _ G hl _ _).mono ?_
 rintro r h' ⟨hr, rfl⟩
 generalize l.drop a = m at hr ⊢
 obtain ⟨B, d, rfl, hB⟩ := id hr
 refine sI ?_
 intros; refine gr 25 28 ?_; refine sJ c117r4.eq_1 ?_
 intros; refine gc ?_; refine sI ?_
 refine gb (fun h4 => ?_) (fun h4 => ?_)
 ·have h4 := of_decide_eq_true h4
  intros; refine gr 0 0 ?_; refine sJ c117r5.eq_1 ?_
  intros; refine rV ?_; simp only [push_cast, Nat.reduceBEq]
  rw [if_pos (by omega)]
  rfl
 have h4 := of_decide_eq_false h4
 rw [if_neg (by omega)]
 intros; refine gN ?_
 intros; refine gr 0 0 ?_; refine sJ c117r6.eq_1 ?_
 intros; refine gr 29 31 ?_; refine sJ c117r7.eq_1 ?_
 refine ⟨by have := hB.1; omega, ?_⟩
 (intros; try refine go_st ?_)
 have hC := SlV.pre k hr (by omega)
 generalize hm : m.take k = x at hC ⊢
 have hxl : x.length = k := by rw [← hm]; simp; omega
 obtain ⟨B', d', he, hd', hm', hC⟩ := hC
 cases he
 refine go_loop (fun e h => ∃ (i : Nat), i ≤ x.length ∧ e 33 = .int .i64 i ∧ e 32 = .int .i64 x.length ∧ e 31 = .slice B x.length d ∧ e 9 = .int .u64 (numB (x.take i) : Int) ∧ h = ⟨G, [], []⟩) (fun e h => x.length - iv (e 33)) ?_ ?_
 ·exact ⟨0, Nat.zero_le _, eE, eE, eE, by refine sI ?_; rfl, rfl⟩
 ·rintro e h ⟨i, hi, e33, e32, e31, e9, rfl⟩
  refine go_keep [9, 31, 32, 33] ?_
  refine sJ4 @e9 @e31 @e32 @e33 ?_
  intros; refine gr 0 0 ?_; refine sJ c117r8.eq_1 ?_
  intros; refine gc ?_; refine sI ?_
  refine gb (fun ht => ?_) (fun ht => ?_)
  ·have ht : i < x.length := by simpa using ht
   obtain ⟨y, hy⟩ : ∃ y, x[i]? = some y := ⟨x[i], List.getElem?_eq_getElem (by omega)⟩
   have hw := inc_i i x.length ht (by unfold maxLen; omega)
   have h7 : numB (x.take i) < 72057594037927936 := numB_7 (by simp; omega)
   have hyl := y.toNat_lt
   have hs : binV .shl (.int .u64 (numB (x.take i) : Int)) (.int .u64 8) = some (.int .u64 ((numB (x.take i) * 2 ^ 8 : Nat) : Int)) := bin_shl64 (s := 8) (by omega) (by omega) .u64
   have ho : binV .or (.int .u64 ((numB (x.take i) * 2 ^ 8 : Nat) : Int)) (.int .u64 (y.toNat : Int)) = some (.int .u64 (numB (x.take (i + 1)) : Int)) := by
    rw [bin_or64 (by omega) (by omega), or_apart (n := 8) (by omega), numB_succ hy]
   generalize hq : numB (x.take i) * 2 ^ 8 = q at hs ho
   intros; refine gN ?_
   intros; refine gr 35 37 ?_; refine sJ c117r9.eq_1 ?_
   refine hC.x_l1 hy rfl rfl ?_
   rintro a1 ha1 u hu
   cases hu
   refine sI ?_
   intros; refine gr 37 42 ?_; (refine sJ4 c117r10.eq_1 @hs (cv_u8 y.toNat hyl) @ho ?_)
   intros; refine gr 42 43 ?_; refine sJ2 c117r11.eq_1 @hw ?_
   (intros; try refine go_st ?_)
   refine go_l ⟨⟨i + 1, by omega, eE, eE, eE, eE, rfl⟩, ?_⟩
   refine sI ?_
   omega
  ·have ht : i = x.length := by simp at ht; omega
   subst ht
   refine go_exit ?_
   refine sI ?_
   intros; refine gr 43 44 ?_; refine sJ c117r12.eq_1 ?_
   intros; refine rV ?_; simp only [push_cast, Nat.reduceBEq]
   rw [List.take_of_length_le (by omega)]
theorem RNGet_ok (l : List UInt8) (a : Int) (k : Nat) (hk : 1 ≤ k ∧ k ≤ 8) (v : Value) (G : Nat → Option Obj) (hl : SB G v l) :
  FnS Tryz.prog 104 #[v, .int .i64 a, .int .i64 (k : Int)] G (.tuple #[.int .u64 ((getN l a k).1 : Int), .int .i64 (getN l a k).2]) := by
 obtain ⟨A, c, rfl, hc, hm, hA⟩ := id hl
 refine F104.fnS (by simp) (go_of ?_)
 unfold c104
 unfold maxLen at hm
 intros; refine gr 0 0 ?_; refine sJ c104r0.eq_1 ?_
 intros; refine gr 10 19 ?_; refine sJ c104r1.eq_1 ?_
 refine gd (fun h1 => absurd (of_decide_eq_true h1) (by omega)) (fun h1 => ?_)
 refine sI ?_
 have h2 : decide ((8 : Int) < (k : Int)) = false := decide_eq_false (by omega)
 refine sJ @h2 ?_
 intros; refine gc ?_; refine sI ?_
 refine gb (fun h3 => ?_) (fun h3 => ?_)
 ·have h3 := of_decide_eq_true h3
  intros; refine gr 0 0 ?_; refine sJ c104r2.eq_1 ?_
  intros; refine rV ?_; simp only [push_cast, Nat.reduceBEq]
  rw [getN_neg h3]
  rfl
 have h3 := of_decide_eq_false h3
 obtain ⟨a, rfl⟩ : ∃ n : Nat, a = n := ⟨a.toNat, by omega⟩
 rw [getN_nat]
 have hbad : (l.drop a).length < k → ∀ (fr : List Td) (e : Env), go none Tryz.prog 48 v104.1 v104.2 (retQ o104 fun v h => v = .tuple #[.int .u64 ((if (l.drop a).length < k then ((0 : Nat), (10 : Int)) else (numB ((l.drop a).take k), 0)).1 : Int), .int .i64 (if (l.drop a).length < k then ((0 : Nat), (10 : Int)) else (numB ((l.drop a).take k), 0)).2]) (Td.s ((SC.reg false c104r4).seq .ret) :: fr) e ⟨G, [], []⟩ := fun hx fr e => by
  intros; refine gr 0 0 ?_; refine sJ c104r4.eq_1 ?_
  intros; refine rV ?_; simp only [push_cast, Nat.reduceBEq]
  rw [if_pos hx]
  rfl
 intros; refine gN ?_
 intros; refine gr 20 31 ?_; refine sJ c104r3.eq_1 ?_
 refine gd (fun h4 => ?_) (fun h4 => ?_)
 ·have h4 := of_decide_eq_true h4
  refine sI ?_
  intros; refine gc ?_; refine sI ?_
  exact hbad (by simp; omega) _ _
 have h4 := of_decide_eq_false h4
 have w1 : IntKind.i64.wrap ((l.length : Int) - a) = (l.length : Int) - a := by rw [w64_id] <;> omega
 refine sJ @w1 ?_
 intros; refine gc ?_; refine sI ?_
 refine gb (fun h5 => ?_) (fun h5 => ?_)
 ·have h5 := of_decide_eq_true h5
  exact hbad (by simp; omega) _ _
 have h5 := of_decide_eq_false h5
 clear hbad
 rw [if_neg (by simp; omega)]
 generalize hm : l.drop a = m
 have hml : k ≤ m.length := by rw [← hm]; simp; omega
 intros; refine gN ?_
 intros; refine gr 0 0 ?_; refine sJ c104r5.eq_1 ?_
 intros; refine gr 0 0 ?_; refine sJ c104r6.eq_1 ?_
 (intros; try refine go_st ?_)
 refine go_loop (fun e h => ∃ (i : Nat), i ≤ k ∧ e 33 = .int .i64 i ∧ e 32 = .int .i64 k ∧ e 0 = .slice A l.length c ∧ e 1 = .int .i64 (a : Int) ∧ e 8 = .int .u64 (numB (m.take i) : Int) ∧ h = ⟨G, [], []⟩) (fun e h => k - iv (e 33)) ?_ ?_
 ·exact ⟨0, Nat.zero_le _, eE, eE, eE, eE, by refine sI ?_; rfl, rfl⟩
 ·rintro e h ⟨i, hi, e33, e32, e0, e1, e8, rfl⟩
  refine go_keep [0, 1, 8, 32, 33] ?_
  refine sJ5 @e0 @e1 @e8 @e32 @e33 ?_
  intros; refine gr 0 0 ?_; refine sJ c104r7.eq_1 ?_
  intros; refine gc ?_; refine sI ?_
  refine gb (fun ht => ?_) (fun ht => ?_)
  ·have ht : i < k := by simpa using ht
   obtain ⟨y, hy⟩ : ∃ y, m[i]? = some y := ⟨m[i], List.getElem?_eq_getElem (by omega)⟩
   have hy' : l[a + i]? = some y := by rw [← hm, List.getElem?_drop] at hy; exact hy
   have hw := inc_i i k ht (by unfold maxLen; omega)
   have h7 : numB (m.take i) < 72057594037927936 := numB_7 (by simp; omega)
   have hyl := y.toNat_lt
   have w2 : IntKind.i64.wrap ((a : Int) + i) = ((a + i : Nat) : Int) := by rw [w64_id] <;> omega
   have w3 : IntKind.u64.wrap (IntKind.u64.wrap ((numB (m.take i) : Int) * 256) + (y.toNat : Int)) = (numB (m.take (i + 1)) : Int) := by
    rw [numB_succ hy, IntKind.wrap_u64, IntKind.wrap_u64]
    omega
   intros; refine gN ?_
   intros; refine gr 35 36 ?_; refine sJ c104r8.eq_1 ?_
   intros; refine gr 36 46 ?_; refine sJ3 c104r9.eq_1 @w2 @bin_mul ?_
   refine hA.x_l1 hy' (by omega) rfl ?_
   rintro a1 ha1 u hu
   cases hu
   (refine sJ3 (cv_u8 y.toNat hyl) @bin_add @w3 ?_)
   intros; refine gr 46 47 ?_; refine sJ2 c104r10.eq_1 @hw ?_
   (intros; try refine go_st ?_)
   refine go_l ⟨⟨i + 1, by omega, eE, eE, eE, eE, eE, rfl⟩, ?_⟩
   refine sI ?_
   omega
  ·have ht : i = k := by simp at ht; omega
   subst ht
   refine go_exit ?_
   refine sI ?_
   intros; refine gr 47 48 ?_; refine sJ c104r11.eq_1 ?_
   intros; refine rV ?_; simp only [push_cast, Nat.reduceBEq]
def getF (l : List UInt8) (a : Nat) : Bool × Int × Int := match l[a]? with
 | none => (false, 0, 10)
 | some x => if 1 < x.toNat then (false, 0, 11) else (decide (x.toNat = 1), a + 1, 0)
theorem flag_ok (l : List UInt8) (a : Nat) (v : Value) (G : Nat → Option Obj) (hl : SB G v l) :
  FnS Tryz.prog 141 #[v, .int .i64 (a : Int)] G (.tuple #[.bool (getF l a).1, .int .i64 (getF l a).2.1, .int .i64 (getF l a).2.2]) := by
 obtain ⟨A, c, rfl, hc, hm, hA⟩ := id hl
 refine F141.fnS (by simp) (go_of ?_)
 unfold c141
 intros; refine gr 0 0 ?_; refine sJ c141r0.eq_1 ?_
 intros; refine gr 8 12 ?_; refine sJ c141r1.eq_1 ?_
 intros; refine gc ?_; refine sI ?_
 refine gb (fun h1 => ?_) (fun h1 => ?_)
 ·have h1 := of_decide_eq_true h1
  intros; refine gr 0 0 ?_; refine sJ c141r2.eq_1 ?_
  intros; refine rV ?_; simp only [push_cast, Nat.reduceBEq]
  rw [getF, List.getElem?_eq_none (by omega)]
 have h1 := of_decide_eq_false h1
 obtain ⟨y, hy⟩ : ∃ y, l[a]? = some y := ⟨l[a]'(by omega), List.getElem?_eq_getElem _⟩
 rw [getF, hy]
 dsimp only
 intros; refine gr 13 18 ?_; refine sJ c141r3.eq_1 ?_
 refine hA.x_l1 hy rfl rfl ?_
 rintro a1 ha1 u hu
 cases hu
 refine sI ?_
 intros; refine gc ?_; refine sI ?_
 refine gb (fun h2 => ?_) (fun h2 => ?_)
 ·have h2 := of_decide_eq_true h2
  intros; refine gr 0 0 ?_; refine sJ c141r4.eq_1 ?_
  intros; refine rV ?_; simp only [push_cast, Nat.reduceBEq]
  rw [if_pos (by omega)]
 have h2 := of_decide_eq_false h2
 rw [if_neg (by omega)]
 have hw := inc_i a l.length (by omega) (by omega)
 intros; refine gN ?_
 intros; refine gr 18 25 ?_; refine sJ2 c141r5.eq_1 @hw ?_
 refine hA.x_l1 hy rfl rfl ?_
 rintro a1 ha1 u hu
 cases hu
 refine sJ @hw ?_
 intros; refine rV ?_; simp only [push_cast, Nat.reduceBEq]
 congr 3
 simp
 omega
theorem F130 : Fun Tryz.prog 130 58 v130 c130 o130 := Fun.mkA Tryz.func130 Tryz.ntmps130
theorem F120 : Fun Tryz.prog 120 73 v120 c120 o120 := Fun.mkA Tryz.func120 Tryz.ntmps120
theorem F137 : Fun Tryz.prog 137 45 v137 c137 o137 := Fun.mkA Tryz.func137 Tryz.ntmps137
theorem F132 : Fun Tryz.prog 132 43 v132 c132 o132 := Fun.mkA Tryz.func132 Tryz.ntmps132
def gvL : Nat → Nat → List UInt8 → Int × Nat × Nat
 | _, _, [] => (10, 0, 0)
 | i, z, x :: xs => if (i = 9 ∧ 1 < x.toNat) ∨ (0 < i ∧ x.toNat = 0) then (11, 0, 0) else if x.toNat < 128 then (0, z + 128 ^ i * (x.toNat % 128), i + 1) else gvL (i + 1) (z + 128 ^ i * (x.toNat % 128)) xs
def zag (z : Nat) : Int := if z % 2 = 0 then ((z / 2 : Nat) : Int) else -((z / 2 : Nat) : Int) - 1
def getV (l : List UInt8) (a : Int) : Int × Int × Int := if a < 0 then (0, 0, 1) else if (gvL 0 0 (l.drop a.toNat)).1 = 0 then (zag (gvL 0 0 (l.drop a.toNat)).2.1, a + (gvL 0 0 (l.drop a.toNat)).2.2, 0) else (0, 0, (gvL 0 0 (l.drop a.toNat)).1)
theorem gvL_nil (i z : Nat) : gvL i z [] = (10, 0, 0) := rfl
theorem gvL_bad {i z : Nat} {x : UInt8} {xs : List UInt8} (h : (i = 9 ∧ 1 < x.toNat) ∨ (0 < i ∧ x.toNat = 0)) : gvL i z (x :: xs) = (11, 0, 0) := by rw [gvL, if_pos h]
theorem gvL_end {i z : Nat} {x : UInt8} {xs : List UInt8} (h : ¬ ((i = 9 ∧ 1 < x.toNat) ∨ (0 < i ∧ x.toNat = 0))) (h2 : x.toNat < 128) : gvL i z (x :: xs) = (0, z + 128 ^ i * (x.toNat % 128), i + 1) := by rw [gvL, if_neg h, if_pos h2]
theorem gvL_more {i z : Nat} {x : UInt8} {xs : List UInt8} (h : ¬ ((i = 9 ∧ 1 < x.toNat) ∨ (0 < i ∧ x.toNat = 0))) (h2 : ¬ x.toNat < 128) : gvL i z (x :: xs) = gvL (i + 1) (z + 128 ^ i * (x.toNat % 128)) xs := by rw [gvL, if_neg h, if_neg h2]
theorem pow_9 {i : Nat} (h : i ≤ 9) : 128 ^ i ≤ 9223372036854775808 := by
 have : 128 ^ i ≤ 128 ^ 9 := Nat.pow_le_pow_right (by decide) h
 omega
theorem pow_8 {i : Nat} (h : i ≤ 8) : 128 ^ i ≤ 72057594037927936 := by
 have : 128 ^ i ≤ 128 ^ 8 := Nat.pow_le_pow_right (by decide) h
 omega
theorem step_lt {i z x : Nat} (hi : i ≤ 9) (hz : z < 128 ^ i) (hx : ¬ (i = 9 ∧ 1 < x)) (hx2 : x < 256) : 128 ^ i * (x % 128) < 18446744073709551616 ∧ z + 128 ^ i * (x % 128) < 18446744073709551616 ∧ (i ≤ 8 → z + 128 ^ i * (x % 128) < 128 ^ (i + 1)) := by
 have h128 : x % 128 ≤ 127 := by omega
 have h1 : 128 ^ i * (x % 128) ≤ 128 ^ i * 127 := Nat.mul_le_mul_left _ h128
 have h3 : 128 ^ (i + 1) = 128 ^ i * 128 := Nat.pow_succ ..
 by_cases h9 : i = 9
 ·subst h9
  have : x ≤ 1 := by omega
  have h4 : 128 ^ 9 * (x % 128) ≤ 128 ^ 9 * 1 := Nat.mul_le_mul_left _ (by omega)
  omega
 ·have := pow_8 (show i ≤ 8 by omega)
  omega
theorem gvL_lt : ∀ (m : List UInt8) (i z : Nat), i ≤ 9 → z < 128 ^ i → (gvL i z m).1 = 0 → (gvL i z m).2.1 < 18446744073709551616 ∧ i < (gvL i z m).2.2 ∧ (gvL i z m).2.2 ≤ i + m.length
 | [], i, z, _, _, h => by simp [gvL] at h
 | x :: xs, i, z, hi, hz, h => by
  by_cases h1 : (i = 9 ∧ 1 < x.toNat) ∨ (0 < i ∧ x.toNat = 0)
  ·rw [gvL_bad h1] at h; cases h
  ·obtain ⟨s1, s2, s3⟩ := step_lt hi hz (fun h => h1 (.inl h)) x.toNat_lt
   by_cases h2 : x.toNat < 128
   ·rw [gvL_end h1 h2]
    exact ⟨s2, by simp, by simp⟩
   ·have hi8 : i ≤ 8 := by omega
    rw [gvL_more h1 h2] at h ⊢
    obtain ⟨a, b, c⟩ := gvL_lt xs (i + 1) _ (by omega) (s3 hi8) h
    refine ⟨a, by omega, by simp; omega⟩
theorem zag_i {z : Nat} (h : z < 18446744073709551616) : I64 (zag z) := by
 unfold zag I64
 split <;> omega
theorem xor_zag {z : Nat} (hz : z < 18446744073709551616) : binV .xor (.int .i64 ((z / 2 : Nat) : Int)) (.int .i64 (IntKind.i64.wrap (0 - ((z % 2 : Nat) : Int)))) = some (.int .i64 (zag z)) := by
 have key : IntKind.i64.wrap (((BitVec.ofInt 64 ((z / 2 : Nat) : Int) ^^^ BitVec.ofInt 64 (IntKind.i64.wrap (0 - ((z % 2 : Nat) : Int)))).toNat : Nat) : Int) = zag z := by
  by_cases h0 : z % 2 = 0
  ·have e2 : IntKind.i64.wrap (0 - ((z % 2 : Nat) : Int)) = 0 := by rw [h0]; rfl
   rw [e2]
   have : BitVec.ofInt 64 0 = 0#64 := rfl
   rw [this, BitVec.xor_zero, ofInt64 (by omega), zag, if_pos h0, w64_id]
   omega
  ·have e2 : IntKind.i64.wrap (0 - ((z % 2 : Nat) : Int)) = -1 := by rw [show z % 2 = 1 by omega]; rfl
   rw [e2]
   have : BitVec.ofInt 64 (-1) = BitVec.allOnes 64 := by decide
   rw [this, BitVec.xor_allOnes, BitVec.toNat_not, ofInt64 (by omega), zag, if_neg h0, IntKind.wrap_i64]
   omega
 simp only [binV]
 rw [if_pos trivial]
 exact congrArg (fun n => some (Value.int .i64 n)) key
theorem bin_shr1_64 (z : Nat) : binV .shr (.int .u64 (z : Int)) (.int .u64 1) = some (.int .u64 ((z / 2 : Nat) : Int)) := by
 simp [binV, IntKind.bits]
 rw [Int.fdiv_eq_ediv_of_nonneg _ (by omega)]
theorem bin_and1_64 {z : Nat} (hz : z < 18446744073709551616) : binV .and (.int .u64 (z : Int)) (.int .u64 1) = some (.int .u64 ((z % 2 : Nat) : Int)) := by
 have := bin_and64 (b := 1) hz (by omega)
 rw [Nat.and_one_is_mod] at this
 exact this
theorem GetVar_ok (l : List UInt8) (a : Int) (v : Value) (G : Nat → Option Obj) (hl : SB G v l) :
  FnS Tryz.prog 130 #[v, .int .i64 a] G (.tuple #[.int .i64 (getV l a).1, .int .i64 (getV l a).2.1, .int .i64 (getV l a).2.2]) := by
 obtain ⟨A, c, rfl, hc, hm, hA⟩ := id hl
 unfold maxLen at hm
 refine F130.fnS (by simp) (go_of ?_)
 unfold c130
 intros; refine gr 0 0 ?_; refine sJ c130r0.eq_1 ?_
 intros; refine gr 10 11 ?_; refine sJ c130r1.eq_1 ?_
 intros; refine gc ?_; refine sI ?_
 refine gb (fun h1 => ?_) (fun h1 => ?_)
 ·have h1 := of_decide_eq_true h1
  intros; refine gr 0 0 ?_; refine sJ c130r2.eq_1 ?_
  intros; refine rV ?_; simp only [push_cast, Nat.reduceBEq]
  rw [getV, if_pos h1]
 have h1 := of_decide_eq_false h1
 obtain ⟨a, rfl⟩ : ∃ n : Nat, a = n := ⟨a.toNat, by omega⟩
 have hgv : getV l (a : Int) = if (gvL 0 0 (l.drop a)).1 = 0 then (zag (gvL 0 0 (l.drop a)).2.1, (a : Int) + (gvL 0 0 (l.drop a)).2.2, 0) else (0, 0, (gvL 0 0 (l.drop a)).1) := by
  rw [getV, if_neg h1]
  rfl
 have hdl : a + (l.drop a).length ≤ l.length ∨ l.drop a = [] := by
  by_cases h : a ≤ l.length
  ·left; simp; omega
  ·right; exact List.drop_of_length_le (by omega)
 rw [hgv]
 intros; refine gN ?_
 intros; refine gr 0 0 ?_; refine sJ c130r3.eq_1 ?_
 intros; refine gr 12 14 ?_; refine sJ c130r4.eq_1 ?_
 refine (from_ok l a _ G hl _ _).mono ?_
 rintro r h' ⟨hr, rfl⟩
 generalize hm0 : l.drop a = m at hr hdl ⊢
 obtain ⟨B, d, rfl, hd, hdm, hB⟩ := hr
 refine sI ?_
 (intros; try refine go_st ?_)
 refine go_loop (fun e h => ∃ (i z : Nat), (i ≤ m.length ∧ i ≤ 9 ∧ z < 128 ^ i ∧ gvL 0 0 m = gvL i z (m.drop i)) ∧ e 16 = .int .i64 i ∧ e 15 = .int .i64 m.length ∧ e 14 = .slice B m.length d ∧ e 7 = .int .u64 (z : Int) ∧ e 1 = .int .i64 (a : Int) ∧ h = ⟨G, [], []⟩) (fun e h => m.length - iv (e 16)) ?_ ?_
 ·exact ⟨0, 0, ⟨Nat.zero_le _, by omega, by simp, by simp⟩, eE, eE, eE, eE, eE, rfl⟩
 ·rintro e h ⟨i, z, ⟨hi, hi9, hz, heq⟩, e16, e15, e14, e7, e1, rfl⟩
  refine go_keep [1, 7, 14, 15, 16] ?_
  refine sJ5 @e1 @e7 @e14 @e15 @e16 ?_
  intros; refine gr 0 0 ?_; refine sJ c130r5.eq_1 ?_
  intros; refine gc ?_; refine sI ?_
  refine gb (fun ht => ?_) (fun ht => ?_)
  ·have ht : i < m.length := by simpa using ht
   have hal : a + m.length ≤ l.length := by
    rcases hdl with h | h
    ·exact h
    ·rw [h] at ht; simp at ht
   obtain ⟨y, hy⟩ : ∃ y, m[i]? = some y := ⟨m[i], List.getElem?_eq_getElem (by omega)⟩
   have hy0 := List.getElem?_eq_some_iff.1 hy
   rw [List.drop_eq_getElem_cons ht, hy0.2] at heq
   have hw := inc_i i m.length ht (by omega)
   have hyl := y.toNat_lt
   intros; refine gN ?_
   intros; refine gr 18 21 ?_; refine sJ c130r6.eq_1 ?_
   refine hB.x_l1 hy rfl rfl ?_
   rintro a1 ha1 u hu
   cases hu
   refine sI ?_
   intros; try refine go_seq ?_
   refine go_cut (fun e h => ¬ ((i = 9 ∧ 1 < y.toNat) ∨ (0 < i ∧ y.toNat = 0)) ∧ e 16 = .int .i64 i ∧ e 15 = .int .i64 m.length ∧ e 14 = .slice B m.length d ∧ e 7 = .int .u64 (z : Int) ∧ e 1 = .int .i64 (a : Int) ∧ e 8 = .int .i64 i ∧ e 9 = .int .u8 (y.toNat : Int) ∧ h = ⟨G, [], []⟩) ?_ ?_
   ·have hbad : ((i = 9 ∧ 1 < y.toNat) ∨ (0 < i ∧ y.toNat = 0)) → ∀ (fr : List Td) (e : Env), go none Tryz.prog 58 v130.1 v130.2 (retQ o130 fun v h => v = .tuple #[.int .i64 (if (gvL 0 0 m).1 = 0 then (zag (gvL 0 0 m).2.1, (a : Int) + (gvL 0 0 m).2.2, 0) else (0, 0, (gvL 0 0 m).1)).1, .int .i64 (if (gvL 0 0 m).1 = 0 then (zag (gvL 0 0 m).2.1, (a : Int) + (gvL 0 0 m).2.2, 0) else (0, 0, (gvL 0 0 m).1)).2.1, .int .i64 (if (gvL 0 0 m).1 = 0 then (zag (gvL 0 0 m).2.1, (a : Int) + (gvL 0 0 m).2.2, 0) else (0, 0, (gvL 0 0 m).1)).2.2]) (Td.s ((SC.reg false c130r8).seq .ret) :: fr) e ⟨G, [], []⟩ := fun hx fr e => by
     intros; refine gr 0 0 ?_; refine sJ c130r8.eq_1 ?_
     intros; refine rV ?_; simp only [push_cast, Nat.reduceBEq]
     rw [heq, gvL_bad hx]
     rfl
    intros; refine gr 21 34 ?_; refine sJ c130r7.eq_1 ?_
    refine gd (fun k1 => ?_) (fun k1 => ?_)
    ·have k1 : i = 9 := by have := of_decide_eq_true k1; omega
     have hp : decide ((0 : Int) < (i : Int)) = true := decide_eq_true (by omega)
     refine sI ?_
     refine gd (fun k2 => ?_) (fun k2 => ?_)
     ·have k2 := of_decide_eq_true k2
      refine sI ?_
      intros; refine gc ?_; refine sI ?_
      exact hbad (.inl ⟨k1, by omega⟩) _ _
     ·have k2 := of_decide_eq_false k2
      refine sJ @hp ?_
      intros; refine gc ?_; refine sI ?_
      refine gb (fun k3 => ?_) (fun k3 => ?_)
      ·exact hbad (.inr ⟨by omega, by have := of_decide_eq_true k3; omega⟩) _ _
      ·have k3 := of_decide_eq_false k3
       (intros; try refine go_st ?_)
       exact go_l ⟨by omega, eE, eE, eE, eE, eE, eE, eE, rfl⟩
    ·have k1 : ¬ i = 9 := by have := of_decide_eq_false k1; omega
     refine sI ?_
     refine gd (fun k2 => ?_) (fun k2 => ?_)
     ·have k2 := of_decide_eq_true k2
      refine sI ?_
      intros; refine gc ?_; refine sI ?_
      refine gb (fun k3 => ?_) (fun k3 => ?_)
      ·exact hbad (.inr ⟨by omega, by have := of_decide_eq_true k3; omega⟩) _ _
      ·have k3 := of_decide_eq_false k3
       (intros; try refine go_st ?_)
       exact go_l ⟨by omega, eE, eE, eE, eE, eE, eE, eE, rfl⟩
     ·have k2 := of_decide_eq_false k2
      refine sI ?_
      intros; refine gc ?_; refine sI ?_
      (intros; try refine go_st ?_)
      exact go_l ⟨by omega, eE, eE, eE, eE, eE, eE, eE, rfl⟩
   rintro e h ⟨hgood, e16, e15, e14, e7, e1, e8, e9, rfl⟩
   refine go_keep [1, 7, 8, 9, 14, 15, 16] ?_
   refine sJ7 @e1 @e7 @e8 @e9 @e14 @e15 @e16 ?_
   obtain ⟨s1, s2, s3⟩ := step_lt hi9 hz (fun h => hgood (.inl h)) hyl
   have hp7 : 128 ^ i = 2 ^ (7 * i) := by rw [Nat.pow_mul]
   have w7 : IntKind.i64.wrap (7 * (i : Int)) = ((7 * i : Nat) : Int) := by rw [w64_id] <;> omega
   have hs : binV .shl (.int .u64 ((y.toNat % 128 : Nat) : Int)) (.int .i64 ((7 * i : Nat) : Int)) = some (.int .u64 ((y.toNat % 128 * 2 ^ (7 * i) : Nat) : Int)) := bin_shl64 (by omega) (by rw [← hp7, Nat.mul_comm]; exact s1) .i64
   have ho : binV .or (.int .u64 (z : Int)) (.int .u64 ((y.toNat % 128 * 2 ^ (7 * i) : Nat) : Int)) = some (.int .u64 ((z + 128 ^ i * (y.toNat % 128) : Nat) : Int)) := by
    rw [bin_or64 (by omega) (by rw [← hp7, Nat.mul_comm]; exact s1), Nat.or_comm, or_apart (by rw [← hp7]; exact hz), ← hp7, Nat.mul_comm, Nat.add_comm]
   have hcu : IntKind.u64.wrap ((y.toNat % 128 : Nat) : Int) = ((y.toNat % 128 : Nat) : Int) := wrap64 (by omega)
   have hx127 := and_127 y
   generalize hq : y.toNat % 128 = q at hs ho hcu hx127
   generalize hz' : z + 128 ^ i * q = z' at ho
   generalize hqq : q * 2 ^ (7 * i) = qq at hs ho
   generalize h7i : 7 * i = j7 at hs w7
   have hz2 : z' < 18446744073709551616 := by rw [← hz', ← hq]; exact s2
   intros; refine gr 35 43 ?_; refine sJ6 c130r9.eq_1 @hx127 @hcu @w7 @hs @ho ?_
   intros; refine gr 43 44 ?_; refine sJ c130r10.eq_1 ?_
   intros; refine gc ?_; refine sI ?_
   refine gb (fun k3 => ?_) (fun k3 => ?_)
   ·have k3 := of_decide_eq_true k3
    have w8 : IntKind.i64.wrap ((a : Int) + i) = ((a + i : Nat) : Int) := by rw [w64_id] <;> omega
    have w9 : IntKind.i64.wrap (((a + i : Nat) : Int) + 1) = ((a + i + 1 : Nat) : Int) := by rw [w64_id] <;> omega
    have hx := xor_zag hz2
    have hcz : IntKind.i64.wrap ((z' / 2 : Nat) : Int) = ((z' / 2 : Nat) : Int) := by rw [w64_id] <;> omega
    have hcm : IntKind.i64.wrap ((z' % 2 : Nat) : Int) = ((z' % 2 : Nat) : Int) := by rw [w64_id] <;> omega
    have ha1 := bin_and1_64 hz2
    have hs1 := bin_shr1_64 z'
    generalize hv1 : z' / 2 = v1 at hx hcz hs1
    generalize hv2 : z' % 2 = v2 at hx hcm ha1
    generalize hv3 : a + i = v3 at w8 w9
    generalize hv4 : v3 + 1 = v4 at w9
    intros; refine gr 45 57 ?_; (try simp -implicitDefEqProofs only [kR_e, kQ_e, push_cast, Nat.reduceBEq, Nat.reduceAdd, Nat.reduceSub, Nat.reduceMul, Nat.reduceLT, Nat.reduceLeDiff, Nat.reduceEqDiff, reduceIte, Bool.not_true, Bool.not_false, true_and, and_true, Option.map_some, Option.bind_some, Int.toNat_natCast, c130r11, hs1, ha1, hcz, hcm, hx, w8, w9])
    intros; refine rV ?_; simp only [push_cast, Nat.reduceBEq]
    have hend := gvL_end (z := z) (xs := m.drop (i + 1)) hgood (by omega)
    rw [heq, hend]
    simp only [if_true]
    rw [hq, hz', ← hv4, ← hv3]
    simp [Int.add_assoc]
   ·have k3 := of_decide_eq_false k3
    have hi8 : i ≤ 8 := by omega
    rw [gvL_more hgood (by omega), hq, hz'] at heq
    intros; refine gN ?_
    intros; refine gr 57 58 ?_; refine sJ2 c130r12.eq_1 @hw ?_
    (intros; try refine go_st ?_)
    refine go_l ⟨⟨i + 1, z', ⟨by omega, by omega, by rw [← hz', ← hq]; exact s3 hi8, heq⟩, eE, eE, eE, eE, eE, rfl⟩, ?_⟩
    refine sI ?_
    omega
  ·have ht : i = m.length := by simp at ht; omega
   rw [ht, List.drop_length, gvL_nil] at heq
   refine go_exit ?_
   refine sI ?_
   intros; refine gr 0 0 ?_; refine sJ c130r13.eq_1 ?_
   intros; refine rV ?_; simp only [push_cast, Nat.reduceBEq]
   rw [heq]
   rfl
theorem RGetVar_ok (l : List UInt8) (a : Int) (v : Value) (G : Nat → Option Obj) (hl : SB G v l) :
  FnS Tryz.prog 120 #[v, .int .i64 a] G (.tuple #[.int .i64 (getV l a).1, .int .i64 (getV l a).2.1, .int .i64 (getV l a).2.2]) := by
 obtain ⟨A, c, rfl, hc, hm, hA⟩ := id hl
 unfold maxLen at hm
 refine F120.fnS (by simp) (go_of ?_)
 unfold c120
 intros; refine gr 0 0 ?_; refine sJ c120r0.eq_1 ?_
 intros; refine gr 12 13 ?_; refine sJ c120r1.eq_1 ?_
 intros; refine gc ?_; refine sI ?_
 refine gb (fun h1 => ?_) (fun h1 => ?_)
 ·have h1 := of_decide_eq_true h1
  intros; refine gr 0 0 ?_; refine sJ c120r2.eq_1 ?_
  intros; refine rV ?_; simp only [push_cast, Nat.reduceBEq]
  rw [getV, if_pos h1]
 have h1 := of_decide_eq_false h1
 obtain ⟨a, rfl⟩ : ∃ n : Nat, a = n := ⟨a.toNat, by omega⟩
 have hgv : getV l (a : Int) = if (gvL 0 0 (l.drop a)).1 = 0 then (zag (gvL 0 0 (l.drop a)).2.1, (a : Int) + (gvL 0 0 (l.drop a)).2.2, 0) else (0, 0, (gvL 0 0 (l.drop a)).1) := by
  rw [getV, if_neg h1]
  rfl
 rw [hgv]
 have hml : (l.drop a).length = l.length - a := by simp
 have hmg : ∀ i : Nat, (l.drop a)[i]? = l[a + i]? := fun i => by rw [List.getElem?_drop]
 generalize hm0 : l.drop a = m at hml hmg ⊢
 intros; refine gN ?_
 intros; refine gr 0 0 ?_; refine sJ c120r3.eq_1 ?_
 intros; refine gr 0 0 ?_; refine sJ c120r4.eq_1 ?_
 intros; refine gr 0 0 ?_; refine sJ c120r5.eq_1 ?_
 (intros; try refine go_st ?_)
 refine go_loop (fun e h => ∃ (i z : Nat), (i ≤ m.length ∧ i ≤ 9 ∧ z < 128 ^ i ∧ gvL 0 0 m = gvL i z (m.drop i)) ∧ e 9 = .int .i64 i ∧ e 0 = .slice A l.length c ∧ e 7 = .int .u64 (z : Int) ∧ e 8 = .int .u64 ((128 ^ i : Nat) : Int) ∧ e 1 = .int .i64 (a : Int) ∧ h = ⟨G, [], []⟩) (fun e h => m.length - iv (e 9)) ?_ ?_
 ·exact ⟨0, 0, ⟨Nat.zero_le _, by omega, by simp, by simp⟩, eE, eE, eE, by refine sI ?_; rfl, eE, rfl⟩
 ·rintro e h ⟨i, z, ⟨hi, hi9, hz, heq⟩, e9, e0, e7, e8, e1, rfl⟩
  refine go_keep [0, 1, 7, 8, 9] ?_
  have hpu : 128 ^ i ≤ 9223372036854775808 := pow_9 hi9
  generalize hu : 128 ^ i = un at e8 hpu
  refine sJ5 @e0 @e1 @e7 @e8 @e9 ?_
  have hbad : m.length ≤ i → ∀ (fr : List Td) (e : Env), go none Tryz.prog 73 v120.1 v120.2 (retQ o120 fun v h => v = .tuple #[.int .i64 (if (gvL 0 0 m).1 = 0 then (zag (gvL 0 0 m).2.1, (a : Int) + (gvL 0 0 m).2.2, 0) else (0, 0, (gvL 0 0 m).1)).1, .int .i64 (if (gvL 0 0 m).1 = 0 then (zag (gvL 0 0 m).2.1, (a : Int) + (gvL 0 0 m).2.2, 0) else (0, 0, (gvL 0 0 m).1)).2.1, .int .i64 (if (gvL 0 0 m).1 = 0 then (zag (gvL 0 0 m).2.1, (a : Int) + (gvL 0 0 m).2.2, 0) else (0, 0, (gvL 0 0 m).1)).2.2]) (Td.s ((SC.reg false c120r7).seq .ret) :: fr) e ⟨G, [], []⟩ := fun hx fr e => by
   rw [List.drop_of_length_le hx, gvL_nil] at heq
   intros; refine gr 0 0 ?_; refine sJ c120r7.eq_1 ?_
   intros; refine rV ?_; simp only [push_cast, Nat.reduceBEq]
   rw [heq]
   rfl
  intros; try refine go_seq ?_
  refine go_blk ?_
  intros; try refine go_seq ?_
  refine go_cut (fun e h => i < m.length ∧ e 9 = .int .i64 i ∧ e 0 = .slice A l.length c ∧ e 7 = .int .u64 (z : Int) ∧ e 8 = .int .u64 (un : Int) ∧ e 1 = .int .i64 (a : Int) ∧ h = ⟨G, [], []⟩) ?_ ?_
  ·intros; refine gr 16 27 ?_; refine sJ c120r6.eq_1 ?_
   refine gd (fun k1 => ?_) (fun k1 => ?_)
   ·have k1 := of_decide_eq_true k1
    refine sI ?_
    intros; refine gc ?_; refine sI ?_
    exact hbad (by omega) _ _
   ·have k1 := of_decide_eq_false k1
    have w1 : IntKind.i64.wrap ((l.length : Int) - a) = (l.length : Int) - a := by rw [w64_id] <;> omega
    refine sJ @w1 ?_
    intros; refine gc ?_; refine sI ?_
    refine gb (fun k2 => ?_) (fun k2 => ?_)
    ·have k2 := of_decide_eq_true k2
     exact hbad (by omega) _ _
    ·have k2 := of_decide_eq_false k2
     (intros; try refine go_st ?_)
     exact go_l ⟨by omega, eE, eE, eE, eE, eE, rfl⟩
  rintro e h ⟨ht, e9, e0, e7, e8, e1, rfl⟩
  refine go_keep [0, 1, 7, 8, 9] ?_
  refine sJ5 @e0 @e1 @e7 @e8 @e9 ?_
  clear hbad
  obtain ⟨y, hy⟩ : ∃ y, m[i]? = some y := ⟨m[i], List.getElem?_eq_getElem (by omega)⟩
  have hy0 := List.getElem?_eq_some_iff.1 hy
  rw [List.drop_eq_getElem_cons ht, hy0.2] at heq
  have hw := inc_i i m.length ht (by unfold maxLen; omega)
  have hyl := y.toNat_lt
  have hy' : l[a + i]? = some y := by rw [← hmg]; exact hy
  have w2 : IntKind.i64.wrap ((a : Int) + i) = ((a + i : Nat) : Int) := by rw [w64_id] <;> omega
  have w3 : IntKind.i64.wrap (((a + i : Nat) : Int) + 1) = ((a + i + 1 : Nat) : Int) := by rw [w64_id] <;> omega
  generalize hv3 : a + i = v3 at w2 w3 hy'
  generalize hv4 : v3 + 1 = v4 at w3
  intros; refine gr 28 34 ?_; refine sJ2 c120r8.eq_1 @w2 ?_
  refine hA.x_l1 hy' rfl rfl ?_
  rintro a1 ha1 u hu'
  cases hu'
  refine sI ?_
  intros; try refine go_seq ?_
  refine go_cut (fun e h => ¬ ((i = 9 ∧ 1 < y.toNat) ∨ (0 < i ∧ y.toNat = 0)) ∧ e 9 = .int .i64 i ∧ e 0 = .slice A l.length c ∧ e 7 = .int .u64 (z : Int) ∧ e 8 = .int .u64 (un : Int) ∧ e 1 = .int .i64 (a : Int) ∧ e 10 = .int .u8 (y.toNat : Int) ∧ h = ⟨G, [], []⟩) ?_ ?_
  ·have hbad : ((i = 9 ∧ 1 < y.toNat) ∨ (0 < i ∧ y.toNat = 0)) → ∀ (fr : List Td) (e : Env), go none Tryz.prog 73 v120.1 v120.2 (retQ o120 fun v h => v = .tuple #[.int .i64 (if (gvL 0 0 m).1 = 0 then (zag (gvL 0 0 m).2.1, (a : Int) + (gvL 0 0 m).2.2, 0) else (0, 0, (gvL 0 0 m).1)).1, .int .i64 (if (gvL 0 0 m).1 = 0 then (zag (gvL 0 0 m).2.1, (a : Int) + (gvL 0 0 m).2.2, 0) else (0, 0, (gvL 0 0 m).1)).2.1, .int .i64 (if (gvL 0 0 m).1 = 0 then (zag (gvL 0 0 m).2.1, (a : Int) + (gvL 0 0 m).2.2, 0) else (0, 0, (gvL 0 0 m).1)).2.2]) (Td.s ((SC.reg false c120r10).seq .ret) :: fr) e ⟨G, [], []⟩ := fun hx fr e => by
    intros; refine gr 0 0 ?_; refine sJ c120r10.eq_1 ?_
    intros; refine rV ?_; simp only [push_cast, Nat.reduceBEq]
    rw [heq, gvL_bad hx]
    rfl
   intros; refine gr 34 47 ?_; refine sJ c120r9.eq_1 ?_
   refine gd (fun k1 => ?_) (fun k1 => ?_)
   ·have k1 : i = 9 := by have := of_decide_eq_true k1; omega
    have hp : decide ((0 : Int) < (i : Int)) = true := decide_eq_true (by omega)
    refine sI ?_
    refine gd (fun k2 => ?_) (fun k2 => ?_)
    ·have k2 := of_decide_eq_true k2
     refine sI ?_
     intros; refine gc ?_; refine sI ?_
     exact hbad (.inl ⟨k1, by omega⟩) _ _
    ·have k2 := of_decide_eq_false k2
     refine sJ @hp ?_
     intros; refine gc ?_; refine sI ?_
     refine gb (fun k3 => ?_) (fun k3 => ?_)
     ·exact hbad (.inr ⟨by omega, by have := of_decide_eq_true k3; omega⟩) _ _
     ·have k3 := of_decide_eq_false k3
      (intros; try refine go_st ?_)
      exact go_l ⟨by omega, eE, eE, eE, eE, eE, eE, rfl⟩
   ·have k1 : ¬ i = 9 := by have := of_decide_eq_false k1; omega
    refine sI ?_
    refine gd (fun k2 => ?_) (fun k2 => ?_)
    ·have k2 := of_decide_eq_true k2
     refine sI ?_
     intros; refine gc ?_; refine sI ?_
     refine gb (fun k3 => ?_) (fun k3 => ?_)
     ·exact hbad (.inr ⟨by omega, by have := of_decide_eq_true k3; omega⟩) _ _
     ·have k3 := of_decide_eq_false k3
      (intros; try refine go_st ?_)
      exact go_l ⟨by omega, eE, eE, eE, eE, eE, eE, rfl⟩
    ·have k2 := of_decide_eq_false k2
     refine sI ?_
     intros; refine gc ?_; refine sI ?_
     (intros; try refine go_st ?_)
     exact go_l ⟨by omega, eE, eE, eE, eE, eE, eE, rfl⟩
  rintro e h ⟨hgood, e9, e0, e7, e8, e1, e10, rfl⟩
  refine go_keep [0, 1, 7, 8, 9, 10] ?_
  refine sJ6 @e0 @e1 @e7 @e8 @e9 @e10 ?_
  obtain ⟨s1, s2, s3⟩ := step_lt hi9 hz (fun h => hgood (.inl h)) hyl
  have hr128 : binV .rem (.int .u8 (y.toNat : Int)) (.int .u8 128) = some (.int .u8 ((y.toNat % 128 : Nat) : Int)) := bin_rem .u8 y.toNat 128 (by decide)
  have hcu : IntKind.u64.wrap ((y.toNat % 128 : Nat) : Int) = ((y.toNat % 128 : Nat) : Int) := wrap64 (by omega)
  have hz128 : z < un := by rw [← hu]; exact hz
  rw [hu] at s1 s2 s3
  generalize hq : y.toNat % 128 = q at hr128 hcu s1 s2 s3
  have wm : IntKind.u64.wrap ((un : Int) * q) = ((un * q : Nat) : Int) := by
   have : (un : Int) * q = ((un * q : Nat) : Int) := by push_cast; rfl
   rw [this, wrap64 s1]
  have wa : IntKind.u64.wrap ((z : Int) + ((un * q : Nat) : Int)) = ((z + un * q : Nat) : Int) := by
   have : (z : Int) + ((un * q : Nat) : Int) = ((z + un * q : Nat) : Int) := by push_cast; rfl
   rw [this, wrap64 s2]
  generalize hz' : z + un * q = z' at wa s2 s3
  generalize hqq : un * q = qq at wm wa
  intros; refine gr 48 55 ?_; refine sJ7 c120r11.eq_1 @hr128 @hcu @bin_mul @bin_add @wm @wa ?_
  intros; refine gr 55 57 ?_; refine sJ2 c120r12.eq_1 @bin_mul ?_
  generalize hun' : IntKind.u64.wrap ((un : Int) * 128) = un'
  intros; refine gr 57 58 ?_; refine sJ c120r13.eq_1 ?_
  intros; refine gc ?_; refine sI ?_
  refine gb (fun k3 => ?_) (fun k3 => ?_)
  ·have k3 := of_decide_eq_true k3
   have hend := gvL_end (z := z) (xs := m.drop (i + 1)) hgood (by omega)
   rw [hu, hq, hqq, ← hqq, hz'] at hend
   have hdv : binV .quo (.int .u64 (z' : Int)) (.int .u64 2) = some (.int .u64 ((z' / 2 : Nat) : Int)) := bin_quo .u64 z' 2 (by decide) (by simp [IntKind.max, IntKind.signed, IntKind.bits]; omega) rfl
   have hrm : binV .rem (.int .u64 (z' : Int)) (.int .u64 2) = some (.int .u64 ((z' % 2 : Nat) : Int)) := bin_rem .u64 z' 2 (by decide)
   have hcz : IntKind.i64.wrap ((z' / 2 : Nat) : Int) = ((z' / 2 : Nat) : Int) := by rw [w64_id] <;> omega
   have hv1 : z' / 2 < 9223372036854775808 := by omega
   have hzag : zag z' = if z' % 2 = 0 then ((z' / 2 : Nat) : Int) else -((z' / 2 : Nat) : Int) - 1 := rfl
   have hv2 : z' % 2 < 2 := by omega
   generalize z' / 2 = v1 at hdv hcz hv1 hzag
   generalize z' % 2 = v2 at hrm hzag hv2
   have w5 : IntKind.i64.wrap (0 - (v1 : Int)) = 0 - (v1 : Int) := by rw [w64_id] <;> omega
   have w6 : IntKind.i64.wrap (0 - (v1 : Int) - 1) = zag z' ∨ v2 = 0 := by
    by_cases h : v2 = 0
    ·exact .inr h
    ·left
     rw [w64_id (by omega), hzag, if_neg h]
     omega
   intros; refine gr 59 62 ?_; refine sJ3 c120r14.eq_1 @hdv @hcz ?_
   intros; try refine go_seq ?_
   refine go_cut (fun e h => e 9 = .int .i64 i ∧ e 1 = .int .i64 (a : Int) ∧ e 11 = .int .i64 (zag z') ∧ h = ⟨G, [], []⟩) ?_ ?_
   ·intros; refine gr 62 64 ?_; refine sJ2 c120r15.eq_1 @hrm ?_
    intros; refine gc ?_; refine sI ?_
    refine gb (fun k4 => ?_) (fun k4 => ?_)
    ·have k4 : ¬ v2 = 0 := by have := of_decide_eq_true k4; omega
     have w6 := w6.resolve_right k4
     intros; refine gr 65 68 ?_; refine sJ3 c120r16.eq_1 @w5 @w6 ?_
     (intros; try refine go_st ?_)
     exact go_l ⟨eE, eE, eE, rfl⟩
    ·have k4 : v2 = 0 := by have := of_decide_eq_false k4; omega
     rw [if_pos k4] at hzag
     (intros; try refine go_st ?_)
     exact go_l ⟨eE, eE, (eJ @hzag), rfl⟩
   rintro e h ⟨e9, e1, e11, rfl⟩
   refine go_keep [1, 9, 11] ?_
   refine sJ3 @e1 @e9 @e11 ?_
   intros; refine gr 68 73 ?_; refine sJ3 c120r17.eq_1 @w2 @w3 ?_
   intros; refine rV ?_; simp only [push_cast, Nat.reduceBEq]
   rw [heq, hend]
   simp only [if_true]
   rw [← hv4, ← hv3]
   simp [Int.add_assoc]
  ·have k3 := of_decide_eq_false k3
   have hi8 : i ≤ 8 := by omega
   rw [gvL_more hgood (by omega), hu, hq, hqq, ← hqq, hz'] at heq
   have hun2 : un' = ((128 ^ (i + 1) : Nat) : Int) := by
    have := pow_8 hi8
    rw [← hun', Nat.pow_succ, hu, IntKind.wrap_u64]
    omega
   intros; refine gN ?_
   intros; refine gr 14 16 ?_; refine sJ2 c120r18.eq_1 @hw ?_
   (intros; try refine go_st ?_)
   refine go_l ⟨⟨i + 1, z', ⟨by omega, by omega, s3 hi8, heq⟩, eE, eE, eE, (eJ @hun2), eE, rfl⟩, ?_⟩
   refine sI ?_
   omega
theorem F138 : Fun Tryz.prog 138 14 v138 c138 o138 := Fun.mkA Tryz.func138 Tryz.ntmps138
theorem F133 : Fun Tryz.prog 133 21 v133 c133 o133 := Fun.mkA Tryz.func133 Tryz.ntmps133
theorem F136 : Fun Tryz.prog 136 13 v136 c136 o136 := Fun.mkA Tryz.func136 Tryz.ntmps136
theorem getV_ok {l : List UInt8} {a : Int} (h : (getV l a).2.2 = 0) : ∃ k : Nat, 0 ≤ a ∧ (getV l a).2.1 = ((a.toNat + k : Nat) : Int) ∧ 0 < k ∧ a.toNat + k ≤ l.length ∧ I64 (getV l a).1 := by
 unfold getV at h ⊢
 split at h
 ·cases h
 rename_i h0
 rw [if_neg h0]
 split at h
 ·rename_i h1
  rw [if_pos h1]
  obtain ⟨a1, a2, a3⟩ := gvL_lt _ 0 0 (by omega) (by simp) h1
  refine ⟨_, by omega, ?_, a2, ?_, zag_i a1⟩
  ·dsimp only
   omega
  ·have : (gvL 0 0 (l.drop a.toNat)).2.2 ≤ l.length - a.toNat := by simpa using a3
   omega
 ·rename_i h1
  exact absurd h h1
def getT (l : List UInt8) (a most : Int) : ByteArray × Int × Int :=
 if (getV l a).2.2 = 0 then
  if (getV l a).1 < 0 then (⟨#[]⟩, 0, 11) else if most < (getV l a).1 then (⟨#[]⟩, 0, 2) else if (l.length : Int) - (getV l a).2.1 < (getV l a).1 then (⟨#[]⟩, 0, 10)
  else (⟨((l.take ((getV l a).2.1.toNat + (getV l a).1.toNat)).drop (getV l a).2.1.toNat).toArray⟩, (getV l a).2.1 + (getV l a).1, 0)
 else (⟨#[]⟩, 0, (getV l a).2.2)
theorem GetText_ok (l : List UInt8) (a most : Int) (v : Value) (G : Nat → Option Obj) (hl : SB G v l) :
  FnS Tryz.prog 137 #[v, .int .i64 a, .int .i64 most] G (.tuple #[.string (getT l a most).1, .int .i64 (getT l a most).2.1, .int .i64 (getT l a most).2.2]) := by
 obtain ⟨A, c, rfl, hc, hm, hA⟩ := id hl
 unfold maxLen at hm
 refine F137.fnS (by simp) (go_of ?_)
 unfold c137 getT
 have hk := @getV_ok l a
 intros; refine gr 0 0 ?_; refine sJ c137r0.eq_1 ?_
 intros; refine gr 10 17 ?_; refine sJ c137r1.eq_1 ?_
 refine (GetVar_ok l a _ G hl _ _).mono ?_; rintro _ _ ⟨rfl, rfl⟩; refine sI ?_
 generalize getV l a = q at hk ⊢
 obtain ⟨n, next, er⟩ := q
 dsimp only at hk ⊢
 intros; refine gr 18 20 ?_; refine sJ c137r2.eq_1 ?_
 intros; refine gc ?_; refine sI ?_
 refine gb (fun h1 => ?_) (fun h1 => ?_)
 ·have h1 := of_decide_eq_true h1
  intros; refine gr 20 21 ?_; refine sJ c137r3.eq_1 ?_
  intros; refine rV ?_; simp only [push_cast, Nat.reduceBEq]
  rw [if_neg h1]
 have h1 : er = 0 := by simpa using h1
 obtain ⟨k, ha, hnx, hk0, hkl, hn⟩ := hk h1
 generalize hb : a.toNat + k = b at hnx hkl
 subst hnx
 rw [if_pos h1]
 intros; refine gr 22 24 ?_; refine sJ c137r4.eq_1 ?_
 intros; refine gc ?_; refine sI ?_
 refine gb (fun h2 => ?_) (fun h2 => ?_)
 ·have h2 := of_decide_eq_true h2
  intros; refine gr 0 0 ?_; refine sJ c137r5.eq_1 ?_
  intros; refine rV ?_; simp only [push_cast, Nat.reduceBEq]
  rw [if_pos h2]
 have h2 := of_decide_eq_false h2
 rw [if_neg h2]
 intros; refine gr 25 28 ?_; refine sJ c137r6.eq_1 ?_
 intros; refine gc ?_; refine sI ?_
 refine gb (fun h3 => ?_) (fun h3 => ?_)
 ·have h3 := of_decide_eq_true h3
  intros; refine gr 0 0 ?_; refine sJ c137r7.eq_1 ?_
  intros; refine rV ?_; simp only [push_cast, Nat.reduceBEq]
  rw [if_pos h3]
 have h3 := of_decide_eq_false h3
 rw [if_neg h3]
 obtain ⟨n, rfl⟩ : ∃ m : Nat, n = m := ⟨n.toNat, by omega⟩
 have w1 : IntKind.i64.wrap ((l.length : Int) - b) = (l.length : Int) - b := by rw [w64_id] <;> omega
 intros; refine gr 29 35 ?_; refine sJ2 c137r8.eq_1 @w1 ?_
 intros; refine gc ?_; refine sI ?_
 refine gb (fun h4 => ?_) (fun h4 => ?_)
 ·have h4 := of_decide_eq_true h4
  intros; refine gr 0 0 ?_; refine sJ c137r9.eq_1 ?_
  intros; refine rV ?_; simp only [push_cast, Nat.reduceBEq]
  rw [if_pos (by omega)]
 have h4 := of_decide_eq_false h4
 rw [if_neg (by omega)]
 have w2 : IntKind.i64.wrap ((b : Int) + n) = ((b + n : Nat) : Int) := by rw [w64_id] <;> omega
 intros; refine gN ?_
 intros; refine gr 35 45 ?_; refine sJ2 c137r10.eq_1 @w2 ?_
 refine slY_v b (b + n) c hl rfl rfl rfl (by omega) fun B hB => ?_
 refine sI ?_
 refine ⟨_, strAt_b hB rfl, ?_⟩
 refine sJ @w2 ?_
 intros; refine rV ?_; simp only [push_cast, Nat.reduceBEq]
theorem RGetText_ok (l : List UInt8) (a most : Int) (v : Value) (G : Nat → Option Obj) (hl : SB G v l) :
  FnS Tryz.prog 132 #[v, .int .i64 a, .int .i64 most] G (.tuple #[.string (getT l a most).1, .int .i64 (getT l a most).2.1, .int .i64 (getT l a most).2.2]) := by
 obtain ⟨A, c, rfl, hc, hm, hA⟩ := id hl
 unfold maxLen at hm
 refine F132.fnS (by simp) (go_of ?_)
 unfold c132 getT
 have hk := @getV_ok l a
 intros; refine gr 0 0 ?_; refine sJ c132r0.eq_1 ?_
 intros; refine gr 12 19 ?_; refine sJ c132r1.eq_1 ?_
 refine (RGetVar_ok l a _ G hl _ _).mono ?_; rintro _ _ ⟨rfl, rfl⟩; refine sI ?_
 generalize getV l a = q at hk ⊢
 obtain ⟨n, next, er⟩ := q
 dsimp only at hk ⊢
 intros; refine gr 19 20 ?_; refine sJ c132r2.eq_1 ?_
 intros; refine gc ?_; refine sI ?_
 refine gb (fun h1 => ?_) (fun h1 => ?_)
 ·have h1 := of_decide_eq_true h1
  intros; refine gr 21 22 ?_; refine sJ c132r3.eq_1 ?_
  intros; refine rV ?_; simp only [push_cast, Nat.reduceBEq]
  rw [if_neg h1]
 have h1 : er = 0 := by simpa using h1
 obtain ⟨k, ha, hnx, hk0, hkl, hn⟩ := hk h1
 generalize hb : a.toNat + k = b at hnx hkl
 subst hnx
 rw [if_pos h1]
 intros; refine gN ?_
 intros; refine gr 22 23 ?_; refine sJ c132r4.eq_1 ?_
 intros; refine gc ?_; refine sI ?_
 refine gb (fun h2 => ?_) (fun h2 => ?_)
 ·have h2 := of_decide_eq_true h2
  intros; refine gr 0 0 ?_; refine sJ c132r5.eq_1 ?_
  intros; refine rV ?_; simp only [push_cast, Nat.reduceBEq]
  rw [if_pos h2]
 have h2 := of_decide_eq_false h2
 rw [if_neg h2]
 intros; refine gN ?_
 intros; refine gr 24 26 ?_; refine sJ c132r6.eq_1 ?_
 intros; refine gc ?_; refine sI ?_
 refine gb (fun h3 => ?_) (fun h3 => ?_)
 ·have h3 := of_decide_eq_true h3
  intros; refine gr 0 0 ?_; refine sJ c132r7.eq_1 ?_
  intros; refine rV ?_; simp only [push_cast, Nat.reduceBEq]
  rw [if_pos h3]
 have h3 := of_decide_eq_false h3
 rw [if_neg h3]
 obtain ⟨n, rfl⟩ : ∃ m : Nat, n = m := ⟨n.toNat, by omega⟩
 have w1 : IntKind.i64.wrap ((l.length : Int) - b) = (l.length : Int) - b := by rw [w64_id] <;> omega
 intros; refine gN ?_
 intros; refine gr 27 32 ?_; refine sJ2 c132r8.eq_1 @w1 ?_
 intros; refine gc ?_; refine sI ?_
 refine gb (fun h4 => ?_) (fun h4 => ?_)
 ·have h4 := of_decide_eq_true h4
  intros; refine gr 0 0 ?_; refine sJ c132r9.eq_1 ?_
  intros; refine rV ?_; simp only [push_cast, Nat.reduceBEq]
  rw [if_pos (by omega)]
 have h4 := of_decide_eq_false h4
 rw [if_neg (by omega)]
 have w2 : IntKind.i64.wrap ((b : Int) + n) = ((b + n : Nat) : Int) := by rw [w64_id] <;> omega
 intros; refine gN ?_
 intros; refine gr 33 43 ?_; refine sJ2 c132r10.eq_1 @w2 ?_
 refine slY_v b (b + n) c hl rfl rfl rfl (by omega) fun B hB => ?_
 refine sI ?_
 refine ⟨_, strAt_b hB rfl, ?_⟩
 refine sJ @w2 ?_
 intros; refine rV ?_; simp only [push_cast, Nat.reduceBEq]
theorem text_ok (l : List UInt8) (a : Int) (v : Value) (G : Nat → Option Obj) (hl : SB G v l) :
  FnS Tryz.prog 136 #[v, .int .i64 a] G (.tuple #[.string (getT l a 64).1, .int .i64 (getT l a 64).2.1, .int .i64 (getT l a 64).2.2]) := by
 refine F136.fnS (by simp) (go_of ?_)
 unfold c136
 intros; refine gr 0 0 ?_; refine sJ c136r0.eq_1 ?_
 intros; refine gr 7 13 ?_; refine sJ c136r1.eq_1 ?_
 refine (GetText_ok l a 64 _ G hl _ _).mono ?_; rintro _ _ ⟨rfl, rfl⟩; refine sI ?_
 intros; refine rV ?_; simp only [push_cast, Nat.reduceBEq]
def bes (n d : Int) : Int := if d < -1099511627776 ∨ 1099511627776 < d then -1 else n + d
theorem beside_ok (n d : Int) (hn : 0 ≤ n ∧ n ≤ 1099511627776) (G : Nat → Option Obj) : FnS Tryz.prog 138 #[.int .i64 n, .int .i64 d] G (.int .i64 (bes n d)) := by
 refine F138.fnS (by simp) (go_of ?_)
 unfold c138
 intros; refine gr 0 0 ?_; refine sJ c138r0.eq_1 ?_
 have hbad : (d < -1099511627776 ∨ 1099511627776 < d) → ∀ (fr : List Td) (e : Env), go none Tryz.prog 14 v138.1 v138.2 (retQ o138 fun v h => v = .int .i64 (bes n d)) (Td.s ((SC.reg false c138r2).seq .ret) :: fr) e ⟨G, [], []⟩ := fun hx fr e => by
  intros; refine gr 0 0 ?_; refine sJ c138r2.eq_1 ?_
  intros; refine rV ?_; simp only [push_cast, Nat.reduceBEq]
  rw [bes, if_pos hx]
 intros; refine gr 5 10 ?_; refine sJ c138r1.eq_1 ?_
 refine gd (fun h1 => ?_) (fun h1 => ?_)
 ·refine sI ?_
  intros; refine gc ?_; refine sI ?_
  exact hbad (.inl (of_decide_eq_true h1)) _ _
 have h1 := of_decide_eq_false h1
 refine sI ?_
 intros; refine gc ?_; refine sI ?_
 refine gb (fun h2 => ?_) (fun h2 => ?_)
 ·exact hbad (.inr (of_decide_eq_true h2)) _ _
 have h2 := of_decide_eq_false h2
 have w : IntKind.i64.wrap (n + d) = n + d := by rw [w64_id] <;> omega
 intros; refine gN ?_
 intros; refine gr 11 14 ?_; refine sJ2 c138r3.eq_1 @w ?_
 intros; refine rV ?_; simp only [push_cast, Nat.reduceBEq]
 rw [bes, if_neg (by omega)]
def besR (n d : Int) : Int := if d < -1099511627776 ∨ 1099511627776 < d ∨ inO (n + d) = false then -1 else n + d
theorem Rbeside_ok (n d : Int) (hn : 0 ≤ n ∧ n ≤ 1099511627776) (G : Nat → Option Obj) : FnS Tryz.prog 133 #[.int .i64 n, .int .i64 d] G (.int .i64 (besR n d)) := by
 refine F133.fnS (by simp) (go_of ?_)
 unfold c133
 intros; refine gr 0 0 ?_; refine sJ c133r0.eq_1 ?_
 have hbad : (d < -1099511627776 ∨ 1099511627776 < d ∨ inO (n + d) = false) → ∀ (fr : List Td) (e : Env), go none Tryz.prog 21 v133.1 v133.2 (retQ o133 fun v h => v = .int .i64 (besR n d)) (Td.s ((SC.reg false c133r2).seq .ret) :: fr) e ⟨G, [], []⟩ := fun hx fr e => by
  intros; refine gr 0 0 ?_; refine sJ c133r2.eq_1 ?_
  intros; refine rV ?_; simp only [push_cast, Nat.reduceBEq]
  rw [besR, if_pos hx]
 intros; refine gr 5 17 ?_; refine sJ c133r1.eq_1 ?_
 refine gd (fun h1 => ?_) (fun h1 => ?_)
 ·refine sI ?_
  intros; refine gc ?_; refine sI ?_
  exact hbad (.inl (of_decide_eq_true h1)) _ _
 have h1 := of_decide_eq_false h1
 refine sI ?_
 refine gd (fun h2 => ?_) (fun h2 => ?_)
 ·refine sI ?_
  intros; refine gc ?_; refine sI ?_
  exact hbad (.inr (.inl (of_decide_eq_true h2))) _ _
 have h2 := of_decide_eq_false h2
 have w : IntKind.i64.wrap (n + d) = n + d := by rw [w64_id] <;> omega
 refine sJ @w ?_
 refine (In_ok (n + d) G _ _).mono ?_; rintro _ _ ⟨rfl, rfl⟩; refine sI ?_
 intros; refine gc ?_; refine sI ?_
 refine gb (fun h3 => ?_) (fun h3 => ?_)
 ·exact hbad (.inr (.inr (by simpa using h3))) _ _
 have h3 : inO (n + d) = true := by simpa using h3
 intros; refine gN ?_
 intros; refine gr 18 21 ?_; refine sJ2 c133r3.eq_1 @w ?_
 intros; refine rV ?_; simp only [push_cast, Nat.reduceBEq]
 rw [besR, if_neg (by rw [h3]; simp; omega)]
theorem F139 : Fun Tryz.prog 139 32 v139 c139 o139 := Fun.mkA Tryz.func139 Tryz.ntmps139
theorem F140 : Fun Tryz.prog 140 32 v140 c140 o140 := Fun.mkA Tryz.func140 Tryz.ntmps140
theorem F142 : Fun Tryz.prog 142 32 v142 c142 o142 := Fun.mkA Tryz.func142 Tryz.ntmps142
theorem ldN_blk {h : H} {b o : Nat} {cs : List Value} {v : Value} (hm : Item.blk b cs ∈ h.L) (hv : cs[o]? = some v) : LdN h (.pointer (some ⟨b, o, none⟩)) none v := ⟨_, rfl, .blk hm hv⟩
def nx {α : Type} (e : Int) (z : α) (x : Int) (r : α × Int × Int) : α × Int × Int := if e = 0 then r else (z, x, e)
theorem nx_0 {α : Type} {e : Int} {z : α} {x : Int} {r : α × Int × Int} (h : e = 0) : nx e z x r = r := if_pos h
theorem nx_n {α : Type} {e : Int} {z : α} {x : Int} {r : α × Int × Int} (h : ¬ e = 0) : nx e z x r = (z, x, e) := if_neg h
theorem fieldI_ok (l : List UInt8) (a e : Int) (v : Value) (b : Nat) (G : Nat → Option Obj) (hl : SB G v l) (g : Nat) (rd : List UInt8 → Int → Int × Int × Int)
  (hg : FnS Tryz.prog g #[v, .int .i64 a] G (.tuple #[.int .i64 (rd l a).1, .int .i64 (rd l a).2.1, .int .i64 (rd l a).2.2])) :
  FnO Tryz.prog 139 #[.pointer (some ⟨b, 0, none⟩), .func (.func g) #[] #[]] G [.blk b [v, .int .i64 a, .int .i64 e]] (fun _ L' r => r = .int .i64 (nx e 0 a (rd l a)).1 ∧ L' = [.blk b [v, .int .i64 (nx e 0 a (rd l a)).2.1, .int .i64 (nx e 0 a (rd l a)).2.2]]) := by
 obtain ⟨A, c, rfl, -⟩ := hl
 refine F139.fnO (by simp) (noRegs_blk noRegs_nil) (go_of ?_)
 unfold c139
 intros; refine gr 0 0 ?_; refine sJ c139r0.eq_1 ?_
 intros; refine gr 0 0 ?_; refine sJ c139r1.eq_1 ?_
 intros; refine gr 6 10 ?_; refine sJ c139r2.eq_1 ?_
 refine ⟨_, ldN_blk (.head _) rfl, ?_⟩
 refine sI ?_
 intros; refine gc ?_; refine sI ?_
 refine gb (fun h1 => ?_) (fun h1 => ?_)
 ·have h1 := of_decide_eq_true h1
  (intros; try refine go_st ?_); refine go_w _ (List.Sublist.refl _) (by decide) ?_; refine sJ c139r3.eq_1 ?_
  refine ⟨_, ldN_blk (.head _) rfl, ?_⟩
  refine sI ?_
  refine ⟨_, ldN_blk (.head _) rfl, ?_⟩
  refine sI ?_
  refine .inl ⟨_, _, rfl, ?_⟩
  refine (hg _ _).mono ?_; rintro _ _ ⟨rfl, rfl⟩; refine sI ?_
  refine again_0 ?_
  refine sI ?_
  refine stX_blk [] [] rfl (by simp) ⟨rfl, rfl⟩ ?_
  refine sI ?_
  refine again_0 ?_
  refine sI ?_
  refine stX_blk [] [] rfl (by simp) ⟨rfl, rfl⟩ ?_
  refine sI ?_
  (intros; try refine go_st ?_)
  intros; refine gr 31 32 ?_; refine sJ c139r4.eq_1 ?_
  (intros; try refine go_st ?_)
  refine go_ret (retQ_o _ rfl (List.Sublist.refl _) (noRegs_blk noRegs_nil) ?_)
  rw [nx_0 h1]
  exact ⟨rfl, rfl⟩
 ·have h1 := of_decide_eq_false h1
  intros; refine gN ?_
  intros; refine gr 31 32 ?_; refine sJ c139r4.eq_1 ?_
  (intros; try refine go_st ?_)
  refine go_ret (retQ_o _ rfl (List.Sublist.refl _) (noRegs_blk noRegs_nil) ?_)
  rw [nx_n h1]
  exact ⟨rfl, rfl⟩
theorem fieldB_ok (l : List UInt8) (a e : Int) (v : Value) (b : Nat) (G : Nat → Option Obj) (hl : SB G v l) (g : Nat) (rd : List UInt8 → Int → Bool × Int × Int)
  (hg : FnS Tryz.prog g #[v, .int .i64 a] G (.tuple #[.bool (rd l a).1, .int .i64 (rd l a).2.1, .int .i64 (rd l a).2.2])) :
  FnO Tryz.prog 140 #[.pointer (some ⟨b, 0, none⟩), .func (.func g) #[] #[]] G [.blk b [v, .int .i64 a, .int .i64 e]] (fun _ L' r => r = .bool (nx e false a (rd l a)).1 ∧ L' = [.blk b [v, .int .i64 (nx e false a (rd l a)).2.1, .int .i64 (nx e false a (rd l a)).2.2]]) := by
 obtain ⟨A, c, rfl, -⟩ := hl
 refine F140.fnO (by simp) (noRegs_blk noRegs_nil) (go_of ?_)
 unfold c140
 intros; refine gr 0 0 ?_; refine sJ c140r0.eq_1 ?_
 intros; refine gr 0 0 ?_; refine sJ c140r1.eq_1 ?_
 intros; refine gr 6 10 ?_; refine sJ c140r2.eq_1 ?_
 refine ⟨_, ldN_blk (.head _) rfl, ?_⟩
 refine sI ?_
 intros; refine gc ?_; refine sI ?_
 refine gb (fun h1 => ?_) (fun h1 => ?_)
 ·have h1 := of_decide_eq_true h1
  (intros; try refine go_st ?_); refine go_w _ (List.Sublist.refl _) (by decide) ?_; refine sJ c140r3.eq_1 ?_
  refine ⟨_, ldN_blk (.head _) rfl, ?_⟩
  refine sI ?_
  refine ⟨_, ldN_blk (.head _) rfl, ?_⟩
  refine sI ?_
  refine .inl ⟨_, _, rfl, ?_⟩
  refine (hg _ _).mono ?_; rintro _ _ ⟨rfl, rfl⟩; refine sI ?_
  refine again_0 ?_
  refine sI ?_
  refine stX_blk [] [] rfl (by simp) ⟨rfl, rfl⟩ ?_
  refine sI ?_
  refine again_0 ?_
  refine sI ?_
  refine stX_blk [] [] rfl (by simp) ⟨rfl, rfl⟩ ?_
  refine sI ?_
  (intros; try refine go_st ?_)
  intros; refine gr 31 32 ?_; refine sJ c140r4.eq_1 ?_
  (intros; try refine go_st ?_)
  refine go_ret (retQ_o _ rfl (List.Sublist.refl _) (noRegs_blk noRegs_nil) ?_)
  rw [nx_0 h1]
  exact ⟨rfl, rfl⟩
 ·have h1 := of_decide_eq_false h1
  intros; refine gN ?_
  intros; refine gr 31 32 ?_; refine sJ c140r4.eq_1 ?_
  (intros; try refine go_st ?_)
  refine go_ret (retQ_o _ rfl (List.Sublist.refl _) (noRegs_blk noRegs_nil) ?_)
  rw [nx_n h1]
  exact ⟨rfl, rfl⟩
theorem fieldS_ok (l : List UInt8) (a e : Int) (v : Value) (b : Nat) (G : Nat → Option Obj) (hl : SB G v l) (g : Nat) (rd : List UInt8 → Int → ByteArray × Int × Int)
  (hg : FnS Tryz.prog g #[v, .int .i64 a] G (.tuple #[.string (rd l a).1, .int .i64 (rd l a).2.1, .int .i64 (rd l a).2.2])) :
  FnO Tryz.prog 142 #[.pointer (some ⟨b, 0, none⟩), .func (.func g) #[] #[]] G [.blk b [v, .int .i64 a, .int .i64 e]] (fun _ L' r => r = .string (nx e ⟨#[]⟩ a (rd l a)).1 ∧ L' = [.blk b [v, .int .i64 (nx e ⟨#[]⟩ a (rd l a)).2.1, .int .i64 (nx e ⟨#[]⟩ a (rd l a)).2.2]]) := by
 obtain ⟨A, c, rfl, -⟩ := hl
 refine F142.fnO (by simp) (noRegs_blk noRegs_nil) (go_of ?_)
 unfold c142
 intros; refine gr 0 0 ?_; refine sJ c142r0.eq_1 ?_
 intros; refine gr 0 0 ?_; refine sJ c142r1.eq_1 ?_
 intros; refine gr 6 10 ?_; refine sJ c142r2.eq_1 ?_
 refine ⟨_, ldN_blk (.head _) rfl, ?_⟩
 refine sI ?_
 intros; refine gc ?_; refine sI ?_
 refine gb (fun h1 => ?_) (fun h1 => ?_)
 ·have h1 := of_decide_eq_true h1
  (intros; try refine go_st ?_); refine go_w _ (List.Sublist.refl _) (by decide) ?_; refine sJ c142r3.eq_1 ?_
  refine ⟨_, ldN_blk (.head _) rfl, ?_⟩
  refine sI ?_
  refine ⟨_, ldN_blk (.head _) rfl, ?_⟩
  refine sI ?_
  refine .inl ⟨_, _, rfl, ?_⟩
  refine (hg _ _).mono ?_; rintro _ _ ⟨rfl, rfl⟩; refine sI ?_
  refine again_0 ?_
  refine sI ?_
  refine stX_blk [] [] rfl (by simp) ⟨rfl, rfl⟩ ?_
  refine sI ?_
  refine again_0 ?_
  refine sI ?_
  refine stX_blk [] [] rfl (by simp) ⟨rfl, rfl⟩ ?_
  refine sI ?_
  (intros; try refine go_st ?_)
  intros; refine gr 31 32 ?_; refine sJ c142r4.eq_1 ?_
  (intros; try refine go_st ?_)
  refine go_ret (retQ_o _ rfl (List.Sublist.refl _) (noRegs_blk noRegs_nil) ?_)
  rw [nx_0 h1]
  exact ⟨rfl, rfl⟩
 ·have h1 := of_decide_eq_false h1
  intros; refine gN ?_
  intros; refine gr 31 32 ?_; refine sJ c142r4.eq_1 ?_
  (intros; try refine go_st ?_)
  refine go_ret (retQ_o _ rfl (List.Sublist.refl _) (noRegs_blk noRegs_nil) ?_)
  rw [nx_n h1]
  exact ⟨rfl, rfl⟩
theorem F131 : Fun Tryz.prog 131 82 v131 c131 o131 := Fun.mkA Tryz.func131 Tryz.ntmps131
def noneR : Rec := ⟨0, ⟨#[]⟩, ⟨#[]⟩, false, 0⟩
def g1 (l : List UInt8) (a : Int) : Int × Int × Int := nx 0 0 a (getV l a)
def g2 (l : List UInt8) (a : Int) : Int × Int × Int := nx (g1 l a).2.2 0 (g1 l a).2.1 (getV l (g1 l a).2.1)
def g3 (l : List UInt8) (a : Int) : Bool × Int × Int := nx (g2 l a).2.2 false (g2 l a).2.1 (getF l (g2 l a).2.1.toNat)
def g4 (l : List UInt8) (a : Int) : ByteArray × Int × Int := nx (g3 l a).2.2 ⟨#[]⟩ (g3 l a).2.1 (getT l (g3 l a).2.1 64)
def g5 (l : List UInt8) (a : Int) : ByteArray × Int × Int := nx (g4 l a).2.2 ⟨#[]⟩ (g4 l a).2.1 (getT l (g4 l a).2.1 64)
def recR (l : List UInt8) (a base stamp : Int) : Rec := ⟨bes base (g1 l a).1, (g4 l a).1, (g5 l a).1, (g3 l a).1, bes stamp (g2 l a).1⟩
def getR (l : List UInt8) (a base stamp : Int) : Rec × Int × Int :=
 if inO base = true ∧ inO stamp = true ∧ 0 ≤ a ∧ a ≤ l.length then
  if (g5 l a).2.2 = 0 then (if chkR (recR l a base stamp) = 0 then (recR l a base stamp, (g5 l a).2.1, 0) else (noneR, 0, 1)) else (noneR, 0, (g5 l a).2.2)
 else (noneR, 0, 1)
theorem getV_nn (l : List UInt8) (a : Int) : 0 ≤ (getV l a).2.1 := by
 by_cases h : (getV l a).2.2 = 0
 ·obtain ⟨k, h1, h2, -⟩ := getV_ok h
  omega
 ·unfold getV at h ⊢
  split
  ·simp
  ·rename_i h0
   rw [if_neg h0] at h
   split
   ·rename_i h1; rw [if_pos h1] at h; simp at h
   ·simp
theorem g2_nn (l : List UInt8) (a : Int) : 0 ≤ (g2 l a).2.1 := by
 unfold g2 nx
 split
 ·exact getV_nn _ _
 ·unfold g1
  rw [nx_0 rfl]
  exact getV_nn _ _
theorem RGet_ok (l : List UInt8) (a base stamp : Int) (v : Value) (G : Nat → Option Obj) (hl : SB G v l) :
  FnE Tryz.prog 131 #[v, .int .i64 a, .int .i64 base, .int .i64 stamp] G (fun r => r = .tuple #[.agg (cellR (getR l a base stamp).1).toArray, .int .i64 (getR l a base stamp).2.1, .int .i64 (getR l a base stamp).2.2]) := by
 obtain ⟨A, c, rfl, hc, hm, hA⟩ := id hl
 refine F131.fnE (by simp) (go_of ?_)
 unfold c131
 have hck := fun x => Check_ok x
 unfold cellR at hck
 intros; refine gr 0 0 ?_; refine sJ c131r0.eq_1 ?_
 have hbad : ∀ (fr : List Td) (e : Env), ¬ (inO base = true ∧ inO stamp = true ∧ 0 ≤ a ∧ a ≤ l.length) → go none Tryz.prog 82 v131.1 v131.2 (retQ o131 fun v _ => v = .tuple #[.agg (cellR (getR l a base stamp).1).toArray, .int .i64 (getR l a base stamp).2.1, .int .i64 (getR l a base stamp).2.2]) (Td.s ((SC.reg false c131r2).seq .ret) :: fr) e ⟨G, [.reg 8 [.int .i64 0, .string ⟨#[]⟩, .string ⟨#[]⟩, .bool false, .int .i64 0]], []⟩ := fun fr e hx => by
  intros; refine gr 31 32 ?_; refine sJ c131r2.eq_1 ?_
  intros; refine rV ?_; simp only [push_cast, Nat.reduceBEq]
  rw [getR, if_neg hx]
  rfl
 intros; refine gr 13 30 ?_; refine sJ c131r1.eq_1 ?_
 refine (in_ok base G _ _).mono ?_; rintro _ _ ⟨rfl, rfl⟩; refine sI ?_
 refine gd (fun h1 => ?_) (fun h1 => ?_)
 ·refine sI ?_
  intros; refine gc ?_; refine sI ?_
  exact hbad _ _ fun h => by rw [h.1] at h1; cases h1
 refine sI ?_
 refine (in_ok stamp G _ _).mono ?_; rintro _ _ ⟨rfl, rfl⟩; refine sI ?_
 refine gd (fun h2 => ?_) (fun h2 => ?_)
 ·refine sI ?_
  intros; refine gc ?_; refine sI ?_
  exact hbad _ _ fun h => by rw [h.2.1] at h2; cases h2
 refine sI ?_
 refine gd (fun h3 => ?_) (fun h3 => ?_)
 ·refine sI ?_
  intros; refine gc ?_; refine sI ?_
  exact hbad _ _ fun h => by have := of_decide_eq_true h3; omega
 refine sI ?_
 intros; refine gc ?_; refine sI ?_
 refine gb (fun h4 => ?_) (fun h4 => ?_)
 ·exact hbad _ _ fun h => by have := of_decide_eq_true h4; omega
 clear hbad
 have h1 : inO base = true := by simpa using h1
 have h2 : inO stamp = true := by simpa using h2
 have h3 := of_decide_eq_false h3
 have h4 := of_decide_eq_false h4
 have hb : 0 ≤ base ∧ base ≤ 1099511627776 := by simpa [inO] using h1
 have hs : 0 ≤ stamp ∧ stamp ≤ 1099511627776 := by simpa [inO] using h2
 rw [show getR l a base stamp = (if (g5 l a).2.2 = 0 then (if chkR (recR l a base stamp) = 0 then (recR l a base stamp, (g5 l a).2.1, 0) else (noneR, 0, 1)) else (noneR, 0, (g5 l a).2.2)) from if_pos ⟨h1, h2, by omega, by omega⟩]
 intros; refine gN ?_
 intros; refine gr 32 36 ?_; refine sJ c131r3.eq_1 ?_
 intro b hb0
 refine sI ?_
 intros; refine gr 0 0 ?_; refine sJ c131r4.eq_1 ?_
 intros; refine gr 36 40 ?_; refine sJ c131r5.eq_1 ?_
 refine (fieldI_ok l a 0 _ b G hl 130 getV (GetVar_ok l a _ G hl) _ []).mono ?_
 rintro r h' ⟨G1, L', rfl, hg1, rfl, rfl⟩
 rw [show nx 0 0 a (getV l a) = g1 l a from rfl]
 refine sI ?_
 refine (beside_ok base _ hb G1 _ _).mono ?_; rintro _ _ ⟨rfl, rfl⟩; refine sI ?_
 intros; refine gr 41 45 ?_; refine sJ c131r6.eq_1 ?_
 have hl1 := SB.le hl hg1
 refine (fieldI_ok l (g1 l a).2.1 (g1 l a).2.2 _ b G1 hl1 130 getV (GetVar_ok l _ _ G1 hl1) _ []).mono ?_
 rintro r h' ⟨G2, L', rfl, hg2, rfl, rfl⟩
 rw [show nx (g1 l a).2.2 0 (g1 l a).2.1 (getV l (g1 l a).2.1) = g2 l a from rfl]
 refine sI ?_
 refine (beside_ok stamp _ hs G2 _ _).mono ?_; rintro _ _ ⟨rfl, rfl⟩; refine sI ?_
 intros; refine gr 46 48 ?_; refine sJ c131r7.eq_1 ?_
 have hl2 := SB.le hl1 hg2
 have hfl := flag_ok l (g2 l a).2.1.toNat _ G2 hl2
 rw [Int.toNat_of_nonneg (g2_nn l a)] at hfl
 refine (fieldB_ok l (g2 l a).2.1 (g2 l a).2.2 _ b G2 hl2 141 (fun l a => getF l a.toNat) hfl _ []).mono ?_
 rintro r h' ⟨G3, L', rfl, hg3, rfl, rfl⟩
 rw [show nx (g2 l a).2.2 false (g2 l a).2.1 (getF l (g2 l a).2.1.toNat) = g3 l a from rfl]
 have hl3 := SB.le hl2 hg3
 refine sI ?_
 intros; refine gr 49 55 ?_; refine sJ c131r8.eq_1 ?_
 refine (fieldS_ok l (g3 l a).2.1 (g3 l a).2.2 _ b G3 hl3 136 (fun l a => getT l a 64) (text_ok l _ _ G3 hl3) _ []).mono ?_
 rintro r h' ⟨G4, L', rfl, hg4, rfl, rfl⟩
 rw [show nx (g3 l a).2.2 ⟨#[]⟩ (g3 l a).2.1 (getT l (g3 l a).2.1 64) = g4 l a from rfl]
 have hl4 := SB.le hl3 hg4
 refine sI ?_
 refine (fieldS_ok l (g4 l a).2.1 (g4 l a).2.2 _ b G4 hl4 136 (fun l a => getT l a 64) (text_ok l _ _ G4 hl4) _ []).mono ?_
 rintro r h' ⟨G5, L', rfl, hg5, rfl, rfl⟩
 rw [show nx (g4 l a).2.2 ⟨#[]⟩ (g4 l a).2.1 (getT l (g4 l a).2.1 64) = g5 l a from rfl]
 refine sI ?_
 intro _
 have hrr : recR l a base stamp = ⟨bes base (g1 l a).1, (g4 l a).1, (g5 l a).1, (g3 l a).1, bes stamp (g2 l a).1⟩ := rfl
 generalize bes base (g1 l a).1 = q0 at hrr ⊢
 generalize (g4 l a).1 = q1 at hrr ⊢
 generalize (g5 l a).1 = q2 at hrr ⊢
 generalize (g3 l a).1 = q3 at hrr ⊢
 generalize bes stamp (g2 l a).1 = q4 at hrr ⊢
 generalize (g5 l a).2.1 = x5
 generalize (g5 l a).2.2 = e5
 generalize recR l a base stamp = R at hrr ⊢
 have hckR := hck R
 subst hrr
 dsimp only at hckR
 intros; try refine go_seq ?_
 refine go_cut (fun e h => e 11 = .pointer (some ⟨b, 0, none⟩) ∧ h = ⟨G5, [.blk b [.slice A l.length c, .int .i64 x5, .int .i64 (if e5 = 0 then chkR ⟨q0, q1, q2, q3, q4⟩ else e5)], .reg 8 [.int .i64 q0, .string q1, .string q2, .bool q3, .int .i64 q4]], []⟩) ?_ ?_
 ·intros; refine gr 57 61 ?_; refine sJ c131r9.eq_1 ?_
  refine ⟨_, ldN_blk (.head _) rfl, ?_⟩
  refine sI ?_
  intros; refine gc ?_; refine sI ?_
  refine gb (fun k1 => ?_) (fun k1 => ?_)
  ·have k1 := of_decide_eq_true k1
   intros; refine gr 62 67 ?_; refine sJ c131r10.eq_1 ?_
   refine (hckR G5 _ _).mono ?_; rintro _ _ ⟨rfl, rfl⟩; refine sI ?_
   refine stX_blk [] [_] rfl (by simp) ⟨rfl, rfl⟩ ?_
   refine sI ?_
   (intros; try refine go_st ?_)
   exact go_l ⟨eE, by rw [if_pos k1]⟩
  ·have k1 := of_decide_eq_false k1
   (intros; try refine go_st ?_)
   exact go_l ⟨eE, by rw [if_neg k1]⟩
 rintro e h ⟨e11, rfl⟩
 refine go_keep [11] ?_
 refine sJ @e11 ?_
 generalize hce : chkR ⟨q0, q1, q2, q3, q4⟩ = ce
 have hck01 : ce = 0 ∨ ce = 1 := by
  rw [← hce]
  unfold chkR
  split
  ·exact .inl rfl
  ·exact .inr rfl
 generalize he' : (if e5 = 0 then ce else e5) = e'
 intros; refine gr 67 71 ?_; refine sJ c131r11.eq_1 ?_
 refine ⟨_, ldN_blk (.head _) rfl, ?_⟩
 refine sI ?_
 intros; refine gc ?_; refine sI ?_
 refine gb (fun k1 => ?_) (fun k1 => ?_)
 ·have k1 := of_decide_eq_true k1
  (intros; try refine go_st ?_); refine go_w _ (.cons_cons _ (.cons _ (List.Sublist.refl _))) (by decide) ?_; refine sJ c131r12.eq_1 ?_
  refine ⟨_, ldN_blk (.head _) rfl, ?_⟩
  refine sI ?_
  refine ⟨grow_L (fun _ _ h => h) (.cons_cons _ (.cons _ (List.Sublist.refl _))), ?_⟩
  refine sI ?_
  intros; refine rV ?_; simp only [push_cast, Nat.reduceBEq]
  by_cases h5 : e5 = 0
  ·rw [if_pos h5] at he'
   subst he'
   rw [if_pos h5, if_neg k1, hck01.resolve_left k1]
   rfl
  ·rw [if_neg h5] at he'
   subst he'
   rw [if_neg h5]
   rfl
 ·have k1 : e' = 0 := by simpa using k1
  intros; refine gN ?_
  (intros; try refine go_st ?_); refine go_w _ (List.Sublist.refl _) (by decide) ?_; refine sJ c131r13.eq_1 ?_
  refine ⟨_, ldN_blk (.head _) rfl, ?_⟩
  refine sI ?_
  intros; refine rV ?_; simp only [push_cast, Nat.reduceBEq]
  by_cases h5 : e5 = 0
  ·rw [if_pos h5] at he'
   rw [if_pos h5, if_pos (by rw [he']; exact k1)]
   rfl
  ·rw [if_neg h5] at he'
   rw [he'] at h5
   exact absurd k1 h5
theorem F121 : Fun Tryz.prog 121 121 v121 c121 o121 := Fun.mkA Tryz.func121 Tryz.ntmps121
theorem g1_eq (l : List UInt8) (a : Int) : g1 l a = getV l a := nx_0 rfl
theorem getR_if {l : List UInt8} {a base stamp : Int} (h : inO base = true ∧ inO stamp = true ∧ 0 ≤ a ∧ a ≤ l.length) : getR l a base stamp = (if (g5 l a).2.2 = 0 then (if chkR (recR l a base stamp) = 0 then (recR l a base stamp, (g5 l a).2.1, 0) else (noneR, 0, 1)) else (noneR, 0, (g5 l a).2.2)) := if_pos h
theorem getR_5 {l : List UInt8} {a base stamp : Int} (h : inO base = true ∧ inO stamp = true ∧ 0 ≤ a ∧ a ≤ l.length) (h5 : ¬ (g5 l a).2.2 = 0) : getR l a base stamp = (noneR, 0, (g5 l a).2.2) := by rw [getR_if h, if_neg h5]
theorem getR_4 {l : List UInt8} {a base stamp : Int} (h : inO base = true ∧ inO stamp = true ∧ 0 ≤ a ∧ a ≤ l.length) (h4 : ¬ (g4 l a).2.2 = 0) : getR l a base stamp = (noneR, 0, (g4 l a).2.2) := by
 have h5 : (g5 l a).2.2 = (g4 l a).2.2 := by rw [g5, nx_n h4]
 rw [getR_5 h (by rw [h5]; exact h4), h5]
theorem getR_3 {l : List UInt8} {a base stamp : Int} (h : inO base = true ∧ inO stamp = true ∧ 0 ≤ a ∧ a ≤ l.length) (h3 : ¬ (g3 l a).2.2 = 0) : getR l a base stamp = (noneR, 0, (g3 l a).2.2) := by
 have h4 : (g4 l a).2.2 = (g3 l a).2.2 := by rw [g4, nx_n h3]
 rw [getR_4 h (by rw [h4]; exact h3), h4]
theorem getR_2 {l : List UInt8} {a base stamp : Int} (h : inO base = true ∧ inO stamp = true ∧ 0 ≤ a ∧ a ≤ l.length) (h2 : ¬ (g2 l a).2.2 = 0) : getR l a base stamp = (noneR, 0, (g2 l a).2.2) := by
 have h3 : (g3 l a).2.2 = (g2 l a).2.2 := by rw [g3, nx_n h2]
 rw [getR_3 h (by rw [h3]; exact h2), h3]
theorem getR_1 {l : List UInt8} {a base stamp : Int} (h : inO base = true ∧ inO stamp = true ∧ 0 ≤ a ∧ a ≤ l.length) (h1 : ¬ (g1 l a).2.2 = 0) : getR l a base stamp = (noneR, 0, (g1 l a).2.2) := by
 have h2 : (g2 l a).2.2 = (g1 l a).2.2 := by rw [g2, nx_n h1]
 rw [getR_2 h (by rw [h2]; exact h1), h2]
def recRR (l : List UInt8) (a base stamp : Int) : Rec := ⟨besR base (g1 l a).1, (g4 l a).1, (g5 l a).1, (g3 l a).1, besR stamp (g2 l a).1⟩
theorem bes_R (n d : Int) : besR n d = bes n d ∨ (inO (besR n d) = false ∧ inO (bes n d) = false) := by
 unfold besR bes
 by_cases h : d < -1099511627776 ∨ 1099511627776 < d
 ·left
  rw [if_pos h, if_pos (by omega)]
 ·rw [if_neg h]
  by_cases h2 : inO (n + d) = false
  ·right
   rw [if_pos (.inr (.inr h2))]
   exact ⟨rfl, h2⟩
  ·left
   rw [if_neg (fun hc => by rcases hc with hc | hc | hc; omega; omega; exact h2 hc)]
theorem chk_RR (l : List UInt8) (a base stamp : Int) : (recRR l a base stamp = recR l a base stamp) ∨ (chkR (recRR l a base stamp) = 1 ∧ chkR (recR l a base stamp) = 1) := by
 rcases bes_R base (g1 l a).1 with h1 | ⟨h1, h2⟩
 ·rcases bes_R stamp (g2 l a).1 with h3 | ⟨h3, h4⟩
  ·left
   rw [recRR, recR, h1, h3]
  ·right
   exact ⟨chkR_1 (.inr (.inl h3)), chkR_1 (.inr (.inl h4))⟩
 ·right
  exact ⟨chkR_1 (.inl h1), chkR_1 (.inl h2)⟩
theorem ldN_all {h : H} {b n : Nat} {cs : List Value} (hm : Item.blk b cs ∈ h.L) (hn : cs.length = n) : LdN h (.pointer (some ⟨b, 0, none⟩)) (some n) (.agg cs.toArray) :=
 ⟨_, cs, rfl, rfl, hn, fun j u hu => by rw [add_mk]; exact .blk hm hu⟩
theorem RRGet_ok (l : List UInt8) (a base stamp : Int) (v : Value) (G : Nat → Option Obj) (hl : SB G v l) :
  FnE Tryz.prog 121 #[v, .int .i64 a, .int .i64 base, .int .i64 stamp] G (fun r => r = .tuple #[.agg (cellR (getR l a base stamp).1).toArray, .int .i64 (getR l a base stamp).2.1, .int .i64 (getR l a base stamp).2.2]) := by
 obtain ⟨A, c, rfl, hc, hm, hA⟩ := id hl
 unfold maxLen at hm
 refine F121.fnE (by simp) (go_of ?_)
 unfold c121
 have hck := fun x => RCheck_ok x
 unfold cellR at hck
 intros; refine gr 0 0 ?_; refine sJ c121r0.eq_1 ?_
 intros; refine gr 25 26 ?_; refine sJ c121r1.eq_1 ?_
 have hb3 : ∀ (fr : List Td) (e : Env), getR l a base stamp = (noneR, 0, 1) → go none Tryz.prog 121 v121.1 v121.2 (retQ o121 fun v _ => v = .tuple #[.agg (cellR (getR l a base stamp).1).toArray, .int .i64 (getR l a base stamp).2.1, .int .i64 (getR l a base stamp).2.2]) (Td.s ((SC.reg false c121r3).seq .ret) :: fr) e ⟨G, [.reg 11 [.int .i64 0, .string ⟨#[]⟩, .string ⟨#[]⟩, .bool false, .int .i64 0], .reg 8 [.int .i64 0, .string ⟨#[]⟩, .string ⟨#[]⟩, .bool false, .int .i64 0]], []⟩ := by
  intro fr e hx
  intros; refine gr 44 45 ?_; refine sJ c121r3.eq_1 ?_
  intros; refine rV ?_; simp only [push_cast, Nat.reduceBEq]
  rw [hx]
  rfl
 have hng : ¬ (inO base = true ∧ inO stamp = true ∧ 0 ≤ a ∧ a ≤ l.length) → getR l a base stamp = (noneR, 0, 1) := fun h => if_neg h
 intros; refine gr 26 43 ?_; refine sJ c121r2.eq_1 ?_
 refine (In_ok base G _ _).mono ?_; rintro _ _ ⟨rfl, rfl⟩; refine sI ?_
 refine gd (fun h1 => ?_) (fun h1 => ?_)
 ·refine sI ?_
  intros; refine gc ?_; refine sI ?_
  exact hb3 _ _ (hng fun h => by rw [h.1] at h1; cases h1)
 refine sI ?_
 refine (In_ok stamp G _ _).mono ?_; rintro _ _ ⟨rfl, rfl⟩; refine sI ?_
 refine gd (fun h2 => ?_) (fun h2 => ?_)
 ·refine sI ?_
  intros; refine gc ?_; refine sI ?_
  exact hb3 _ _ (hng fun h => by rw [h.2.1] at h2; cases h2)
 refine sI ?_
 refine gd (fun h3 => ?_) (fun h3 => ?_)
 ·refine sI ?_
  intros; refine gc ?_; refine sI ?_
  exact hb3 _ _ (hng fun h => by have := of_decide_eq_true h3; omega)
 refine sI ?_
 intros; refine gc ?_; refine sI ?_
 refine gb (fun h4 => ?_) (fun h4 => ?_)
 ·exact hb3 _ _ (hng fun h => by have := of_decide_eq_true h4; omega)
 have h1 : inO base = true := by simpa using h1
 have h2 : inO stamp = true := by simpa using h2
 have h3 := of_decide_eq_false h3
 have h4 := of_decide_eq_false h4
 have hb : 0 ≤ base ∧ base ≤ 1099511627776 := by simpa [inO] using h1
 have hs : 0 ≤ stamp ∧ stamp ≤ 1099511627776 := by simpa [inO] using h2
 have hin : inO base = true ∧ inO stamp = true ∧ 0 ≤ a ∧ a ≤ l.length := ⟨h1, h2, by omega, by omega⟩
 clear hb3 hng
 -- the first number
 intros; refine gN ?_
 intros; refine gr 45 52 ?_; refine sJ c121r4.eq_1 ?_
 refine (RGetVar_ok l a _ G hl _ _).mono ?_; rintro _ _ ⟨rfl, rfl⟩; refine sI ?_
 rw [← g1_eq]
 intros; refine gr 52 53 ?_; refine sJ c121r5.eq_1 ?_
 intros; refine gc ?_; refine sI ?_
 refine gb (fun k1 => ?_) (fun k1 => ?_)
 ·have k1 := of_decide_eq_true k1
  intros; refine gr 54 56 ?_; refine sJ c121r6.eq_1 ?_
  intros; refine rV ?_; simp only [push_cast, Nat.reduceBEq]
  rw [getR_1 hin k1]
  rfl
 have k1 : (g1 l a).2.2 = 0 := by simpa using k1
 have e2 : g2 l a = getV l (g1 l a).2.1 := nx_0 k1
 -- the second one
 intros; refine gN ?_
 intros; refine gr 56 63 ?_; refine sJ c121r7.eq_1 ?_
 refine (RGetVar_ok l _ _ G hl _ _).mono ?_; rintro _ _ ⟨rfl, rfl⟩; refine sI ?_
 rw [← e2]
 intros; refine gr 63 64 ?_; refine sJ c121r8.eq_1 ?_
 intros; refine gc ?_; refine sI ?_
 refine gb (fun k2 => ?_) (fun k2 => ?_)
 ·have k2 := of_decide_eq_true k2
  intros; refine gr 65 67 ?_; refine sJ c121r9.eq_1 ?_
  intros; refine rV ?_; simp only [push_cast, Nat.reduceBEq]
  rw [getR_2 hin k2]
  rfl
 have k2 : (g2 l a).2.2 = 0 := by simpa using k2
 have e3 : g3 l a = getF l (g2 l a).2.1.toNat := nx_0 k2
 have hj0 := g2_nn l a
 generalize hj : (g2 l a).2.1 = j at e3 hj0 ⊢
 obtain ⟨j, rfl⟩ : ∃ n : Nat, j = n := ⟨j.toNat, by omega⟩
 rw [Int.toNat_natCast] at e3
 -- the byte
 intros; refine gN ?_
 intros; refine gr 67 70 ?_; refine sJ c121r10.eq_1 ?_
 intros; refine gc ?_; refine sI ?_
 refine gb (fun k3 => ?_) (fun k3 => ?_)
 ·have k3 := of_decide_eq_true k3
  have e3' : g3 l a = (false, 0, 10) := by rw [e3, getF, List.getElem?_eq_none (by omega)]
  intros; refine gr 71 72 ?_; refine sJ c121r11.eq_1 ?_
  intros; refine rV ?_; simp only [push_cast, Nat.reduceBEq]
  rw [getR_3 hin (by rw [e3']; decide), e3']
  rfl
 have k3 := of_decide_eq_false k3
 obtain ⟨y, hy⟩ : ∃ y, l[j]? = some y := ⟨l[j]'(by omega), List.getElem?_eq_getElem _⟩
 rw [getF, hy] at e3
 dsimp only at e3
 intros; refine gN ?_
 intros; refine gr 72 76 ?_; refine sJ c121r12.eq_1 ?_
 refine hA.x_l1 hy rfl rfl ?_
 rintro a1 ha1 u hu
 cases hu
 refine sI ?_
 intros; refine gc ?_; refine sI ?_
 refine gb (fun k4 => ?_) (fun k4 => ?_)
 ·have k4 := of_decide_eq_true k4
  rw [if_pos (by omega)] at e3
  intros; refine gr 77 78 ?_; refine sJ c121r13.eq_1 ?_
  intros; refine rV ?_; simp only [push_cast, Nat.reduceBEq]
  rw [getR_3 hin (by rw [e3]; decide), e3]
  rfl
 have k4 := of_decide_eq_false k4
 rw [if_neg (by omega)] at e3
 have hw := inc_i j l.length (by omega) (by unfold maxLen; omega)
 have e4 : g4 l a = getT l ((j : Int) + 1) 64 := by rw [g4, nx_0 (by rw [e3]), e3]
 -- the texts
 intros; refine gN ?_
 intros; refine gr 78 86 ?_; refine sJ2 c121r14.eq_1 @hw ?_
 refine (RGetText_ok l _ 64 _ G hl _ _).mono ?_; rintro _ _ ⟨rfl, rfl⟩; refine sI ?_
 rw [← e4]
 intros; refine gr 86 87 ?_; refine sJ c121r15.eq_1 ?_
 intros; refine gc ?_; refine sI ?_
 refine gb (fun k5 => ?_) (fun k5 => ?_)
 ·have k5 := of_decide_eq_true k5
  intros; refine gr 88 90 ?_; refine sJ c121r16.eq_1 ?_
  intros; refine rV ?_; simp only [push_cast, Nat.reduceBEq]
  rw [getR_4 hin k5]
  rfl
 have k5 : (g4 l a).2.2 = 0 := by simpa using k5
 have e5 : g5 l a = getT l (g4 l a).2.1 64 := nx_0 k5
 intros; refine gN ?_
 intros; refine gr 90 97 ?_; refine sJ c121r17.eq_1 ?_
 refine (RGetText_ok l _ 64 _ G hl _ _).mono ?_; rintro _ _ ⟨rfl, rfl⟩; refine sI ?_
 rw [← e5]
 intros; refine gr 97 98 ?_; refine sJ c121r18.eq_1 ?_
 intros; refine gc ?_; refine sI ?_
 refine gb (fun k6 => ?_) (fun k6 => ?_)
 ·have k6 := of_decide_eq_true k6
  intros; refine gr 99 101 ?_; refine sJ c121r19.eq_1 ?_
  intros; refine rV ?_; simp only [push_cast, Nat.reduceBEq]
  rw [getR_5 hin k6]
  rfl
 have k6 : (g5 l a).2.2 = 0 := by simpa using k6
 rw [getR_if hin, if_pos k6]
 have hrr : recRR l a base stamp = ⟨besR base (g1 l a).1, (g4 l a).1, (g5 l a).1, decide ((y.toNat : Int) = 1), besR stamp (g2 l a).1⟩ := by
  rw [recRR, e3]
  congr 1
  simp
  omega
 have hchk := chk_RR l a base stamp
 generalize (g4 l a).1 = q1 at hrr ⊢
 generalize (g5 l a).1 = q2 at hrr ⊢
 have hb1 := Rbeside_ok base (g1 l a).1 hb G
 have hb2 := Rbeside_ok stamp (g2 l a).1 hs G
 generalize besR base (g1 l a).1 = q0 at hrr hb1
 generalize besR stamp (g2 l a).1 = q4 at hrr hb2
 generalize hq3 : decide ((y.toNat : Int) = 1) = q3 at hrr
 have hckR := hck (recRR l a base stamp)
 generalize recRR l a base stamp = RX at hrr hckR hchk
 subst hrr
 dsimp only at hckR
 intros; refine gN ?_
 intros; try refine go_seq ?_
 refine go_cut (fun e h => ∃ bk, e 24 = .pointer (some ⟨bk, 0, none⟩) ∧ e 22 = .int .i64 (g5 l a).2.1 ∧ h = ⟨G, [.blk bk [.int .i64 q0, .string q1, .string q2, .bool q3, .int .i64 q4], .reg 11 [.int .i64 0, .string ⟨#[]⟩, .string ⟨#[]⟩, .bool false, .int .i64 0], .reg 8 [.int .i64 0, .string ⟨#[]⟩, .string ⟨#[]⟩, .bool false, .int .i64 0]], []⟩) ?_ ?_
 ·(intros; try refine go_st ?_); refine go_z _ (List.Sublist.refl _) (by decide) ?_; refine sJ c121r20.eq_1 ?_
  refine hA.y_l1 hy rfl rfl ?_
  rintro a1 ha1 u hu
  cases hu
  refine sJ @hq3 ?_
  refine ⟨?_, ?_⟩
  ·refine (hb1 _ _).mono ?_; rintro _ _ ⟨rfl, rfl⟩; refine sI ?_
   refine ⟨?_, ?_⟩
   ·refine (hb2 _ _).mono ?_; rintro _ _ ⟨rfl, rfl⟩; refine sI ?_
    intro bk hbk
    refine ⟨grow_L (fun _ _ h => h) (.cons _ (List.Sublist.refl _)), ?_⟩
    refine sI ?_
    refine stX_blk [] [_, _] rfl (by simp) ⟨rfl, rfl⟩ ?_
    refine sI ?_
    refine ⟨grow_L (fun _ _ h => h) (.cons _ (List.Sublist.refl _)), ?_⟩
    refine sI ?_
    exact go_l ⟨bk, eE, eE, rfl⟩
   ·intro bk hbk
    refine ⟨grow_L (fun _ _ h => h) (.cons _ (List.Sublist.refl _)), ?_⟩
    refine sI ?_
    refine (hb2 _ _).mono ?_; rintro _ _ ⟨rfl, rfl⟩; refine sI ?_
    refine ⟨grow_L (fun _ _ h => h) (.cons _ (List.Sublist.refl _)), ?_⟩
    refine sI ?_
    refine stX_blk [] [_, _] rfl (by simp) ⟨rfl, rfl⟩ ?_
    refine sI ?_
    refine ⟨grow_L (fun _ _ h => h) (.cons _ (List.Sublist.refl _)), ?_⟩
    refine sI ?_
    exact go_l ⟨bk, eE, eE, rfl⟩
  ·intro bk hbk
   refine ⟨grow_L (fun _ _ h => h) (.cons _ (List.Sublist.refl _)), ?_⟩
   refine sI ?_
   refine (hb1 _ _).mono ?_; rintro _ _ ⟨rfl, rfl⟩; refine sI ?_
   refine ⟨grow_L (fun _ _ h => h) (.cons _ (List.Sublist.refl _)), ?_⟩
   refine sI ?_
   refine (hb2 _ _).mono ?_; rintro _ _ ⟨rfl, rfl⟩; refine sI ?_
   refine ⟨grow_L (fun _ _ h => h) (.cons _ (List.Sublist.refl _)), ?_⟩
   refine sI ?_
   refine stX_blk [] [_, _] rfl (by simp) ⟨rfl, rfl⟩ ?_
   refine sI ?_
   refine ⟨grow_L (fun _ _ h => h) (.cons _ (List.Sublist.refl _)), ?_⟩
   refine sI ?_
   exact go_l ⟨bk, eE, eE, rfl⟩
 rintro e h ⟨bk, e24, e22, rfl⟩
 refine go_keep [22, 24] ?_
 refine sJ2 @e22 @e24 ?_
 intros; refine gr 115 117 ?_; refine sJ c121r21.eq_1 ?_
 refine ⟨_, ldN_all (.head _) rfl, ?_⟩
 refine sI ?_
 refine (hckR G _ _).mono ?_; rintro _ _ ⟨rfl, rfl⟩; refine sI ?_
 intros; refine gc ?_; refine sI ?_
 refine gb (fun k7 => ?_) (fun k7 => ?_)
 ·have k7 := of_decide_eq_true k7
  intros; refine gr 118 119 ?_; refine sJ c121r22.eq_1 ?_
  intros; refine rV ?_; simp only [push_cast, Nat.reduceBEq]
  rcases hchk with h | ⟨_, h⟩
  ·rw [← h, if_neg k7]
   rfl
  ·rw [h]
   rfl
 have k7 : chkR ⟨q0, q1, q2, q3, q4⟩ = 0 := by simpa using k7
 intros; refine gN ?_
 intros; refine gr 119 121 ?_; refine sJ c121r23.eq_1 ?_
 refine ⟨_, ldN_all (.head _) rfl, ?_⟩
 refine sI ?_
 intros; refine rV ?_; simp only [push_cast, Nat.reduceBEq]
 rcases hchk with h | ⟨h, _⟩
 ·rw [← h, if_pos k7]
  rfl
 ·rw [h] at k7
  cases k7
theorem F118 : Fun Tryz.prog 118 33 v118 c118 o118 := Fun.mkA Tryz.func118 Tryz.ntmps118
theorem F105 : Fun Tryz.prog 105 37 v105 c105 o105 := Fun.mkA Tryz.func105 Tryz.ntmps105
theorem putN_succ (n k : Nat) : putN n (k + 1) = putN (n / 256) k ++ [UInt8.ofNat n] := by
 unfold putN
 rw [List.range_succ, List.map_append]
 congr 1
 ·apply List.map_congr_left
  intro i hi
  have hi := List.mem_range.1 hi
  congr 1
  rw [Nat.div_div_eq_div_mul, show k + 1 - 1 - i = (k - 1 - i) + 1 by omega, Nat.pow_succ, Nat.mul_comm]
 ·simp
theorem numB_snoc (l : List UInt8) (x : UInt8) : numB (l ++ [x]) = numB l * 256 + x.toNat := by simp [numB]
theorem putN_numB : ∀ (k : Nat) (l : List UInt8), l.length = k → putN (numB l) k = l
 | 0, l, h => by
  have : l = [] := List.eq_nil_of_length_eq_zero h
  subst this
  rfl
 | k + 1, l, h => by
  obtain ⟨m, x, rfl⟩ : ∃ m x, l = m ++ [x] := by
   have hne : l ≠ [] := by intro h0; rw [h0] at h; cases h
   exact ⟨l.dropLast, l.getLast hne, (List.dropLast_concat_getLast hne).symm⟩
  have hx := x.toNat_lt
  have hl : m.length = k := by simpa using h
  rw [putN_succ, numB_snoc, show (numB m * 256 + x.toNat) / 256 = numB m by omega, putN_numB k m hl]
  congr 1
  have : UInt8.ofNat (numB m * 256 + x.toNat) = x := by
   apply UInt8.toNat_inj.1
   simp
  rw [this]
theorem numB_putN : ∀ (k n : Nat), n < 256 ^ k → numB (putN n k) = n
 | 0, n, h => by
  have : n = 0 := by simpa using h
  subst this
  rfl
 | k + 1, n, h => by
  rw [Nat.pow_succ] at h
  rw [putN_succ, numB_snoc, numB_putN k (n / 256) (by omega)]
  simp
  try omega
def openB (l : List UInt8) : List UInt8 × Int := if l.length < 4 then ([], 10) else if l.drop (l.length - 4) = putN (crcB (l.take (l.length - 4))).toNat 4 then (l.take (l.length - 4), 0) else ([], 20)
theorem putN_inj {a : W32} {m : List UInt8} (hm : m.length = 4) : numB m = a.toNat ↔ m = putN a.toNat 4 := by
 constructor
 ·intro h
  rw [← h, putN_numB 4 m hm]
 ·intro h
  rw [h, numB_putN 4 _ (by have := a.isLt; omega)]
theorem Open_ok (l : List UInt8) (v : Value) (G : Nat → Option Obj) (hl : SB G v l) (hb : l.length ≤ 1000000) : FnO Tryz.prog 118 #[v] G [] (fun _ L' r => OwnE (openB l) L' r) := by
 obtain ⟨A, c, rfl, hc, hm, hA⟩ := id hl
 refine F118.fnO (by simp) noRegs_nil (go_of ?_)
 unfold c118
 have w1 : IntKind.i64.wrap ((l.length : Int) - 4) = (l.length : Int) - 4 := by rw [w64_id] <;> omega
 intros; refine gr 0 0 ?_; refine sJ c118r0.eq_1 ?_
 intros; refine gr 7 10 ?_; refine sJ2 c118r1.eq_1 @w1 ?_
 intros; refine gr 10 11 ?_; refine sJ c118r2.eq_1 ?_
 intros; refine gc ?_; refine sI ?_
 refine gb (fun h1 => ?_) (fun h1 => ?_)
 ·have h1 := of_decide_eq_true h1
  intros; refine gr 0 0 ?_; refine sJ c118r3.eq_1 ?_
  (intros; try refine go_st ?_)
  refine go_ghost (ghost_nil none 5 1) ?_
  refine go_ret (retQ_o _ rfl (List.Sublist.refl _) (noRegs_row noRegs_nil) ?_)
  rw [openB, if_pos (by omega)]
  exact ⟨_, rfl, [], .nil, rfl⟩
 have h1 := of_decide_eq_false h1
 obtain ⟨k, hk⟩ : ∃ k, l.length = k + 4 := ⟨l.length - 4, by omega⟩
 have hn : ((l.length : Int) - 4) = (k : Int) := by omega
 obtain ⟨w, hw⟩ : ∃ w, w = crcB (l.take k) := ⟨_, rfl⟩
 have hop : openB l = if l.drop k = putN w.toNat 4 then (l.take k, 0) else ([], 20) := by rw [openB, if_neg (by omega), show l.length - 4 = k by omega, ← hw]
 have hd : (l.drop k).length = 4 := by simp; omega
 have hng := NGet_ok l k 4 (by omega) _ G hl
 rw [getN_nat, if_neg (by omega), List.take_of_length_le (by omega)] at hng
 have hinj := putN_inj (a := w) hd
 have hpre := SlV.pre k hl (by omega)
 have hsum := Sum_ok (l.take k) _ G hpre
 rw [← hw] at hsum
 unfold vW at hsum
 obtain ⟨x, hx⟩ : ∃ x, x = numB (l.drop k) := ⟨_, rfl⟩
 rw [← hx] at hng hinj
 dsimp only at hng
 rw [hn]
 have hbad : ¬ l.drop k = putN w.toNat 4 → ∀ (fr : List Td) (e : Env) (G' : Nat → Option Obj), go none Tryz.prog 33 v118.1 v118.2 (retQ o118 fun v h => OwnE (openB l) h.L v) (Td.s ((SC.reg false c118r6).seq .ret) :: fr) e ⟨G', [], []⟩ := fun hx fr e G' => by
  intros; refine gr 0 0 ?_; refine sJ c118r6.eq_1 ?_
  (intros; try refine go_st ?_)
  refine go_ghost (ghost_nil none 5 1) ?_
  refine go_ret (retQ_o _ rfl (List.Sublist.refl _) (noRegs_row noRegs_nil) ?_)
  rw [hop, if_neg hx]
  exact ⟨_, rfl, [], .nil, rfl⟩
 intros; refine gN ?_
 intros; refine gr 12 18 ?_; refine sJ c118r4.eq_1 ?_
 refine (hng _ _).mono ?_; rintro _ _ ⟨rfl, rfl⟩; refine sI ?_
 intros; refine gr 18 28 ?_; refine sJ c118r5.eq_1 ?_
 refine gd (fun h => by simp at h) (fun _ => ?_)
 refine sI ?_
 refine ⟨by omega, ?_⟩
 refine (hsum _ _).mono ?_
 rintro r h' ⟨G1, rfl, hg1, rfl⟩
 refine sJ @u64_W ?_
 intros; refine gc ?_; refine sI ?_
 refine gb (fun h2 => ?_) (fun h2 => ?_)
 ·have h2 := of_decide_eq_true h2
  exact hbad (fun h => h2 (by rw [hinj.2 h])) _ _ _
 have h2 : l.drop k = putN w.toNat 4 := hinj.1 (by have := of_decide_eq_false h2; omega)
 clear hbad
 intros; refine gN ?_
 intros; refine gr 29 33 ?_; refine sJ c118r7.eq_1 ?_
 refine ⟨by omega, ?_⟩
 refine apX_v (.inr ⟨⟨none, rfl⟩, rfl, rfl, rfl, rfl⟩) (SB.le hpre hg1) rfl UE1 (by simp; unfold maxLen; omega) fun ys A c hc => ?_
 simp only [Nat.zero_add, List.nil_append]
 refine sI ?_
 (intros; try refine go_st ?_)
 refine go_ret (retQ_o _ rfl (List.Sublist.refl _) (noRegs_row noRegs_nil) ?_)
 rw [hop, if_pos h2]
 exact ⟨_, rfl, ys, hc, rfl⟩
theorem ROpen_ok (l : List UInt8) (v : Value) (G : Nat → Option Obj) (hl : SB G v l) (hb : l.length ≤ 1000000) : FnO Tryz.prog 105 #[v] G [] (fun _ L' r => OwnE (openB l) L' r) := by
 obtain ⟨A, c, rfl, hc, hm, hA⟩ := id hl
 refine F105.fnO (by simp) noRegs_nil (go_of ?_)
 unfold c105
 have w1 : IntKind.i64.wrap ((l.length : Int) - 4) = (l.length : Int) - 4 := by rw [w64_id] <;> omega
 intros; refine gr 0 0 ?_; refine sJ c105r0.eq_1 ?_
 intros; refine gr 7 10 ?_; refine sJ2 c105r1.eq_1 @w1 ?_
 intros; refine gr 10 11 ?_; refine sJ c105r2.eq_1 ?_
 intros; refine gc ?_; refine sI ?_
 refine gb (fun h1 => ?_) (fun h1 => ?_)
 ·have h1 := of_decide_eq_true h1
  intros; refine gr 0 0 ?_; refine sJ c105r3.eq_1 ?_
  (intros; try refine go_st ?_)
  refine go_ghost (ghost_nil none 5 1) ?_
  refine go_ret (retQ_o _ rfl (List.Sublist.refl _) (noRegs_row noRegs_nil) ?_)
  rw [openB, if_pos (by omega)]
  exact ⟨_, rfl, [], .nil, rfl⟩
 have h1 := of_decide_eq_false h1
 obtain ⟨k, hk⟩ : ∃ k, l.length = k + 4 := ⟨l.length - 4, by omega⟩
 have hn : ((l.length : Int) - 4) = (k : Int) := by omega
 obtain ⟨w, hw⟩ : ∃ w, w = crcB (l.take k) := ⟨_, rfl⟩
 have hop : openB l = if l.drop k = putN w.toNat 4 then (l.take k, 0) else ([], 20) := by rw [openB, if_neg (by omega), show l.length - 4 = k by omega, ← hw]
 have hd : (l.drop k).length = 4 := by simp; omega
 have hpre := SlV.pre k hl (by omega)
 have hsum := RSum_ok (l.take k) _ G hpre
 rw [← hw] at hsum
 have hp4 := putN_len w.toNat 4
 rw [hn]
 intros; refine gN ?_
 intros; refine gr 12 17 ?_; refine sJ c105r4.eq_1 ?_
 refine ⟨by omega, ?_⟩
 refine (hsum _ _).mono ?_; rintro _ _ ⟨rfl, rfl⟩; refine sI ?_
 refine (ownL_d (by decide) (four_ok w G) _ []).mono ?_
 rintro r h' ⟨G1, rfl, hg1, B, d, rfl, hd1, hd2, hB⟩
 generalize hq : putN w.toNat 4 = q at hB hop hp4
 have hA1 := hA.le hg1 (E' := UE) fun _ _ h => h
 refine sI ?_
 intros; refine gr 0 0 ?_; refine sJ c105r5.eq_1 ?_
 (intros; try refine go_st ?_)
 refine go_loop (fun e h => ∃ i : Nat, (i ≤ 4 ∧ (l.drop k).take i = q.take i) ∧ e 6 = .int .i64 i ∧ e 4 = .int .i64 k ∧ e 0 = .slice A l.length c ∧ e 5 = .slice B q.length d ∧ h = ⟨G1, [], []⟩) (fun e h => 4 - iv (e 6)) ?_ ?_
 ·exact ⟨0, ⟨Nat.zero_le _, rfl⟩, eE, eE, eE, eE, rfl⟩
 ·rintro e h ⟨i, ⟨hi, htk⟩, e6, e4, e0, e5, rfl⟩
  refine go_keep [0, 4, 5, 6] ?_
  refine sJ4 @e0 @e4 @e5 @e6 ?_
  intros; refine gr 17 18 ?_; refine sJ c105r6.eq_1 ?_
  intros; refine gc ?_; refine sI ?_
  refine gb (fun h2 => ?_) (fun h2 => ?_)
  ·have hi4 : i < 4 := by have := of_decide_eq_true h2; omega
   have hw3 := inc_i i 4 hi4 (by unfold maxLen; omega)
   have w2 : IntKind.i64.wrap ((k : Int) + i) = ((k + i : Nat) : Int) := by rw [w64_id] <;> omega
   obtain ⟨x, hx⟩ : ∃ x, (l.drop k)[i]? = some x := ⟨(l.drop k)[i]'(by omega), List.getElem?_eq_getElem _⟩
   obtain ⟨y, hy⟩ : ∃ y, q[i]? = some y := ⟨q[i]'(by omega), List.getElem?_eq_getElem _⟩
   have hx' : l[k + i]? = some x := by rw [← List.getElem?_drop]; exact hx
   intros; refine gN ?_
   (intros; try refine go_st ?_); refine go_q 21 31 (by decide) ?_; refine sJ2 c105r7.eq_1 @w2 ?_
   refine hA1.y_l1 hx' (by omega) rfl ?_
   rintro a1 ha1 u hu
   cases hu
   refine sI ?_
   refine hB.y_l1 hy rfl rfl ?_
   rintro a2 ha2 u hu
   cases hu
   refine sI ?_
   intros; refine gc ?_; refine sI ?_
   refine gb (fun h3 => ?_) (fun h3 => ?_)
   ·have h3 := of_decide_eq_true h3
    intros; refine gr 0 0 ?_; refine sJ c105r8.eq_1 ?_
    (intros; try refine go_st ?_)
    refine go_ghost (ghost_nil none 5 1) ?_
    refine go_ret (retQ_o _ rfl (List.Sublist.refl _) (noRegs_row noRegs_nil) ?_)
    rw [hop, if_neg fun h => h3 (by rw [h, hy] at hx; cases hx; rfl)]
    exact ⟨_, rfl, [], .nil, rfl⟩
   ·have h3 : x = y := by have := of_decide_eq_false h3; apply UInt8.toNat_inj.1; omega
    intros; refine gN ?_
    intros; refine gr 19 21 ?_; refine sJ2 c105r9.eq_1 @hw3 ?_
    (intros; try refine go_st ?_)
    refine go_l ⟨⟨i + 1, ⟨by omega, take_succ_eq htk hx hy h3⟩, eE, eE, eE, eE, rfl⟩, ?_⟩
    refine sI ?_
    omega
  ·have hi4 : i = 4 := by have := of_decide_eq_false h2; omega
   subst hi4
   rw [List.take_of_length_le (by omega), List.take_of_length_le (by omega)] at htk
   refine go_exit ?_
   refine sI ?_
   intros; refine gr 32 37 ?_; refine sJ c105r10.eq_1 ?_
   intro bk hbk
   refine ⟨by omega, ?_⟩
   refine apX_v (.inr ⟨⟨_, rfl⟩, rfl, rfl, rfl, rfl⟩) (SB.le hpre hg1) rfl UE1 (by simp; unfold maxLen; omega) fun ys A c hc => ?_
   simp only [Nat.zero_add, List.nil_append]
   refine sI ?_
   (intros; try refine go_st ?_)
   refine go_ret (retQ_o _ rfl (List.Sublist.refl _) (noRegs_row noRegs_nil) ?_)
   rw [hop, if_pos htk]
   exact ⟨_, rfl, ys, hc, rfl⟩
theorem F129 : Fun Tryz.prog 129 18 v129 c129 o129 := Fun.mkA Tryz.func129 Tryz.ntmps129
theorem F119 : Fun Tryz.prog 119 155 v119 c119 o119 := Fun.mkA Tryz.func119 Tryz.ntmps119
def nums (l : List UInt8) : Nat → Option (List Int × Nat)
 | 0 => some ([], 0)
 | k + 1 => (nums l k).bind fun r => if (getV l r.2).2.2 = 0 then some (r.1 ++ [(getV l r.2).1], (getV l r.2).2.1.toNat) else none
def recsG (l : List UInt8) (base stamp : Int) (p : Nat) : Nat → Option (List Rec × Nat)
 | 0 => some ([], p)
 | k + 1 => (recsG l base stamp p k).bind fun r => if (getR l r.2 base stamp).2.2 = 0 then some (r.1 ++ [(getR l r.2 base stamp).1], (getR l r.2 base stamp).2.1.toNat) else none
def stOk (rs : List Rec) (stamp : Int) : Bool := match rs with
 | [] => true
 | r :: _ => decide (r.stamp = stamp)
def mkB (ns : List Int) (m : UInt8) (rs : List Rec) : Batch := ⟨ns.getD 0 0, ns.getD 0 0 + ns.getD 1 0, ns.getD 2 0, ns.getD 3 0, ns.getD 4 0, ns.getD 5 0, ns.getD 6 0, decide (4 ≤ m.toNat), ((m.toNat % 4 : Nat) : Int), rs⟩
def parse4 (l : List UInt8) (ns : List Int) (m : UInt8) (many : Nat) (s : Int × Int × Int) : Option Batch :=
 if s.2.2 = 0 then (recsG l (ns.getD 0 0) s.1 s.2.1.toNat many).bind fun r => if r.2 = l.length ∧ stOk r.1 s.1 = true then some (mkB ns m r.1) else none else none
def parse3 (l : List UInt8) (ns : List Int) (m : UInt8) (v : Int × Int × Int) : Option Batch :=
 if v.2.2 = 0 ∧ 0 ≤ v.1 ∧ v.1 ≤ 16 then parse4 l ns m v.1.toNat (if 0 < v.1 then getV l v.2.1 else (0, v.2.1, 0)) else none
def parse2 (w : Int) (l : List UInt8) (q : List Int × Nat) : Option Batch :=
 (l[q.2]?).bind fun m => if m.toNat < 8 ∧ (0 ≤ q.1.getD 0 0 ∧ q.1.getD 0 0 ≤ 1099511627776) ∧ (0 ≤ q.1.getD 1 0 ∧ q.1.getD 1 0 ≤ w) then parse3 l q.1 m (getV l ((q.2 : Int) + 1)) else none
def parseB (w : Int) (l : List UInt8) : Option Batch := (nums l 7).bind (parse2 w l)
theorem nums_none {l : List UInt8} : ∀ (j k : Nat), nums l k = none → nums l (k + j) = none
 | 0, _, h => h
 | j + 1, k, h => by rw [← Nat.add_assoc, nums, nums_none j k h]; rfl
theorem recsG_none {l : List UInt8} {base stamp : Int} {p : Nat} : ∀ (j k : Nat), recsG l base stamp p k = none → recsG l base stamp p (k + j) = none
 | 0, _, h => h
 | j + 1, k, h => by rw [← Nat.add_assoc, recsG, recsG_none j k h]; rfl
theorem recsG_pre {l : List UInt8} {base stamp : Int} {p many : Nat} {q : List Rec × Nat} (h : recsG l base stamp p many = some q) : ∀ k, k ≤ many → ∃ q2, recsG l base stamp p k = some q2 ∧ ∃ t, q.1 = q2.1 ++ t := by
 induction many generalizing q with
 | zero =>
  intro k hk
  have : k = 0 := by omega
  subst this
  exact ⟨q, h, [], by simp⟩
 | succ n ih =>
  intro k hk
  by_cases hkn : k = n + 1
  ·subst hkn
   exact ⟨q, h, [], by simp⟩
  ·rw [recsG] at h
   cases hn : recsG l base stamp p n with
   | none => rw [hn] at h; cases h
   | some q1 =>
    rw [hn] at h
    simp only [Option.bind_some] at h
    split at h
    ·cases h
     obtain ⟨q2, h2, t, ht⟩ := ih hn k (by omega)
     exact ⟨q2, h2, t ++ [_], by dsimp only; rw [ht, List.append_assoc]⟩
    ·cases h
theorem number_ok (l : List UInt8) (a : Int) (ok : Bool) (b1 b3 b4 : Nat) (v : Value) (G : Nat → Option Obj) (hl : SB G v l) (h1 : cellG G ⟨b1, 0, none⟩ = some v) :
  FnO Tryz.prog 129 #[.pointer (some ⟨b1, 0, none⟩), .pointer (some ⟨b4, 0, none⟩), .pointer (some ⟨b3, 0, none⟩)] G [.blk b4 [.int .i64 a], .blk b3 [.bool ok]]
   (fun G' L' r => G = G' ∧ r = .int .i64 (if (getV l a).2.2 = 0 then (getV l a).1 else 0) ∧ L' = [.blk b4 [.int .i64 (if (getV l a).2.2 = 0 then (getV l a).2.1 else a)], .blk b3 [.bool (if (getV l a).2.2 = 0 then ok else false)]]) := by
 refine F129.fnO (by simp) (noRegs_blk (noRegs_blk noRegs_nil)) (go_of ?_)
 unfold c129
 have hgv := GetVar_ok l a v G hl
 intros; refine gr 0 0 ?_; refine sJ c129r0.eq_1 ?_
 intros; refine gr 7 14 ?_; refine sJ c129r1.eq_1 ?_
 refine ⟨_, ⟨_, rfl, .g h1⟩, ?_⟩
 refine sI ?_
 refine ⟨_, ldN_blk (.head _) rfl, ?_⟩
 refine (hgv _ _).mono ?_; rintro _ _ ⟨rfl, rfl⟩; refine sI ?_
 intros; refine gr 14 15 ?_; refine sJ c129r2.eq_1 ?_
 intros; refine gc ?_; refine sI ?_
 refine gb (fun k1 => ?_) (fun k1 => ?_)
 ·have k1 := of_decide_eq_true k1
  intros; refine gr 0 0 ?_; refine sJ c129r3.eq_1 ?_
  refine stX_blk [_] [] rfl (by simp) ⟨rfl, rfl⟩ ?_
  refine sI ?_
  intros; refine gr 0 0 ?_; refine sJ c129r4.eq_1 ?_
  (intros; try refine go_st ?_)
  refine go_ret (retQ_o _ rfl (List.Sublist.refl _) (noRegs_blk (noRegs_blk noRegs_nil)) ?_)
  rw [if_neg k1, if_neg k1, if_neg k1]
  exact ⟨rfl, rfl, rfl⟩
 ·have k1 : (getV l a).2.2 = 0 := by simpa using k1
  intros; refine gN ?_
  intros; refine gr 16 17 ?_; refine sJ c129r5.eq_1 ?_
  refine stX_blk [] [_] rfl (by simp) ⟨rfl, rfl⟩ ?_
  refine sI ?_
  intros; refine gr 17 18 ?_; refine sJ c129r6.eq_1 ?_
  (intros; try refine go_st ?_)
  refine go_ret (retQ_o _ rfl (List.Sublist.refl _) (noRegs_blk (noRegs_blk noRegs_nil)) ?_)
  rw [if_pos k1, if_pos k1, if_pos k1]
  exact ⟨rfl, rfl, rfl⟩
def numC (ns : List Int) : List Value := ns.map fun n => .int .i64 n
theorem splice_num {zs : List Int} {k : Nat} {x : Int} (hk : k < zs.length) : splice (numC zs) k [.int .i64 x] = numC (zs.set k x) := by
 rw [splice1 _ (by simpa [numC] using hk)]
 simp [numC]
theorem take_set {zs : List Int} {k : Nat} {x : Int} (hk : k < zs.length) : (zs.set k x).take (k + 1) = zs.take k ++ [x] := by
 rw [List.take_succ_eq_append_getElem (by simpa using hk), List.take_set_of_le (Nat.le_refl _)]
 simp
theorem and_4 {x : UInt8} (h : x.toNat < 8) : binV .and (.int .u8 (x.toNat : Int)) (.int .u8 4) = some (.int .u8 (if 4 ≤ x.toNat then 4 else 0)) := by
 have key : ∀ b : Fin 8, (BitVec.ofInt 8 ((b.val : Nat) : Int) &&& BitVec.ofInt 8 4).toNat = if 4 ≤ b.val then 4 else 0 := by decide +kernel
 have h2 := key ⟨x.toNat, h⟩
 simp only [binV]
 rw [if_pos trivial]
 have h3 : (BitVec.ofInt IntKind.u8.bits (x.toNat : Int) &&& BitVec.ofInt IntKind.u8.bits 4).toNat = if 4 ≤ x.toNat then 4 else 0 := h2
 rw [h3]
 split <;> rfl
theorem andNot_4 {x : UInt8} (h : x.toNat < 8) : binV .andNot (.int .u8 (x.toNat : Int)) (.int .u8 4) = some (.int .u8 ((x.toNat % 4 : Nat) : Int)) := by
 have key : ∀ b : Fin 8, (BitVec.ofInt 8 ((b.val : Nat) : Int) &&& ~~~ BitVec.ofInt 8 4).toNat = b.val % 4 := by decide +kernel
 have h2 := key ⟨x.toNat, h⟩
 simp only [binV]
 rw [if_pos trivial]
 have h3 : (BitVec.ofInt IntKind.u8.bits (x.toNat : Int) &&& ~~~ BitVec.ofInt IntKind.u8.bits 4).toNat = x.toNat % 4 := h2
 rw [h3, IntKind.wrap_u8]
 congr 2
 omega
def ParseR (w : Int) (l : List UInt8) (G : Nat → Option Obj) (r : Value) : Prop := ∃ x cs ok, r = .tuple #[.agg cs.toArray, .bool ok] ∧ BE G x cs ∧ (if ok = true then parseB w l = some x else parseB w l = none)
theorem BE.zero {G : Nat → Option Obj} : BE G ⟨0, 0, 0, 0, 0, 0, 0, false, 0, []⟩ [.int .i64 0, .int .i64 0, .int .i64 0, .int .i64 0, .int .i64 0, .int .i64 0, .int .i64 0, .bool false, .int .i64 0, .slice none 0 0] := ⟨none, 0, rfl, ⟨Nat.le_refl _, Nat.zero_le _, fun i x hx => by simp at hx⟩, by decide, by decide, by decide, by decide, by decide, by decide, by decide, by decide⟩
theorem getV_i (l : List UInt8) (a : Int) : I64 (if (getV l a).2.2 = 0 then (getV l a).1 else 0) := by
 split
 ·rename_i h
  obtain ⟨_, _, _, _, _, h⟩ := getV_ok h
  exact h
 ·decide
theorem app1 {α : Type} {E : α → List Value → Prop} {P : Program} {h : H} {d sz et nb : Nat} {l : List SI} {e : Env} {K : Env → H → Prop} {u : Value} {b : Nat} {zs : List α} {zc cs : List Value} {L1 L2 : List Kx.Item} {x : α} (hL : h.L = .row (.slice (some ⟨b, 0, none⟩) 1 1) et sz 1 cs :: L1 ++ .row u et sz zs.length zc :: L2)
  (hE : E x cs) (hl : cs.length = sz) (h1 : ∀ u ∈ cs, u.oneCell' = true) (hc : Cells E sz zs zc) (hz : zs.length ≤ 1000000) (hnb : nb ≤ 1000)
  (hk : ∀ A' c' zc', Cells E sz (zs ++ [x]) zc' → kR P l d e K (.slice A' (zs ++ [x]).length c') ⟨h.G, .row (.slice (some ⟨b, 0, none⟩) 1 1) et sz 1 cs :: L1 ++ .row (.slice A' (zs ++ [x]).length c') et sz (zs ++ [x]).length zc' :: L2, h.D⟩) :
  apX P u (.slice (some ⟨b, 0, none⟩) 1 1) et sz nb d l e h K := by
 refine ⟨.row (.slice (some ⟨b, 0, none⟩) 1 1) et sz 1 cs :: L1, zs.length, zc, L2, 1, cs, .inl hL, srcH_row (h := h) (by rw [hL]; exact .head _) h1 (by rw [hl, Nat.one_mul]), ⟨?_, by unfold maxLen; omega⟩, fun A' c' => ?_⟩
 ·have : (zs.length + 1) * nb ≤ 1000001 * 1000 := Nat.mul_le_mul (by omega) hnb
  omega
 ·have := hk A' c' (zc ++ cs) (hc.app (.one hE hl))
  simp only [List.length_append, List.length_cons, List.length_nil, Nat.zero_add] at this
  exact this
theorem getR_RR (l : List UInt8) (a base stamp : Int) : RR (getR l a base stamp).1 (cellR (getR l a base stamp).1) := by
 have hz : RR noneR (cellR noneR) := ⟨rfl, ⟨by decide, by decide⟩, by decide, by decide⟩
 unfold getR
 split
 ·split
  ·split
   ·rename_i h
    obtain ⟨⟨h1, h2⟩, h3, h4⟩ := chk_small h
    simp [inO] at h1 h2
    refine ⟨rfl, ⟨?_, ?_⟩, ?_, ?_⟩
    ·dsimp only; unfold I64; omega
    ·dsimp only; unfold I64; omega
    ·dsimp only; unfold maxLen; omega
    ·dsimp only; unfold maxLen; omega
   ·exact hz
  ·exact hz
 ·exact hz
theorem getT_nn (l : List UInt8) (a most : Int) : 0 ≤ (getT l a most).2.1 := by
 have := getV_nn l a
 unfold getT
 split
 ·split
  ·simp
  ·split
   ·simp
   ·split
    ·simp
    ·dsimp only; omega
 ·simp
theorem getR_nn (l : List UInt8) (a base stamp : Int) : 0 ≤ (getR l a base stamp).2.1 := by
 unfold getR
 split
 ·split
  ·rename_i h5
   split
   ·dsimp only
    unfold g5 nx at h5 ⊢
    split
    ·exact getT_nn _ _ _
    ·rename_i h4
     rw [if_neg h4] at h5
     exact absurd h5 h4
   ·simp
  ·simp
 ·simp
set_option maxHeartbeats 2000000 in
theorem parse_ok (l : List UInt8) (v : Value) (G : Nat → Option Obj) (hl : SB G v l) (hb : l.length ≤ 1000000) : FnD Tryz.prog 119 #[v] G (ParseR 15 l) := by
 refine F119.fnD (by simp) (go_of ?_)
 have hl00 := hl
 obtain ⟨A, c, rfl, hc, hm, hA⟩ := hl
 unfold c119
 intros; refine gr 0 0 ?_; refine sJ c119r0.eq_1 ?_
 intro b1 hb1
 refine sI ?_
 intro b3 hb3
 refine sI ?_
 intros; refine gr 0 0 ?_; refine sJ c119r1.eq_1 ?_
 intro b4 hb4
 refine sI ?_
 refine stX_blk [] [_, _, _] rfl (by simp) ⟨rfl, rfl⟩ ?_
 refine sI ?_
 intros; refine gr 0 0 ?_; refine sJ c119r2.eq_1 ?_
 refine stX_blk [_] [_, _] rfl (by simp) ⟨rfl, rfl⟩ ?_
 refine sI ?_
 intros; refine gr 15 16 ?_; refine sJ c119r3.eq_1 ?_
 intros; refine gr 0 0 ?_; refine sJ c119r4.eq_1 ?_
 intro b6 hb6
 refine sI ?_
 intros; refine gr 0 0 ?_; refine sJ c119r5.eq_1 ?_
 intros; refine gN ?_
 refine go_gx (gx_blk_at [_, _, _, _] []) ?_
 rintro h' ⟨G1, rfl, hg1, hcell⟩
 have h1 : cellG G1 ⟨b1, 0, none⟩ = some (.slice A l.length c) := by have := hcell 0 _ rfl; rwa [add_mk] at this
 clear hcell
 have hl1 := SB.le hl00 hg1
 refine go_ghost (ghost_perm (L' := [.blk b4 [.int .i64 0], .blk b3 [.bool true], .blk b6 (numC [0, 0, 0, 0, 0, 0, 0]), .reg 2 [.int .i64 0, .int .i64 0, .int .i64 0, .int .i64 0, .int .i64 0, .int .i64 0, .int .i64 0, .bool false, .int .i64 0, .slice none 0 0]]) ((List.Perm.swap _ _ _).trans (List.Perm.cons _ (List.Perm.swap _ _ _)))) ?_
 have hrest : ∀ (e : Env), True := fun _ => trivial
 refine go_cut (fun e h => ∃ (ns : List Int) (a : Int) (ok : Bool), (ns.length = 7 ∧ (∀ z ∈ ns, I64 z) ∧ ((ok = true ∧ 0 ≤ a ∧ nums l 7 = some (ns, a.toNat)) ∨ (ok = false ∧ nums l 7 = none))) ∧
  (e 1 = .pointer (some ⟨b1, 0, none⟩) ∧ e 3 = .pointer (some ⟨b3, 0, none⟩) ∧ e 4 = .pointer (some ⟨b4, 0, none⟩) ∧ e 6 = .pointer (some ⟨b6, 0, none⟩) ∧ e 5 = .func (.func 129) #[] #[.pointer (some ⟨b1, 0, none⟩), .pointer (some ⟨b4, 0, none⟩), .pointer (some ⟨b3, 0, none⟩)]) ∧
  h = ⟨G1, [.blk b4 [.int .i64 a], .blk b3 [.bool ok], .blk b6 (numC ns), .reg 2 [.int .i64 0, .int .i64 0, .int .i64 0, .int .i64 0, .int .i64 0, .int .i64 0, .int .i64 0, .bool false, .int .i64 0, .slice none 0 0]], []⟩) ?_ ?_
 ·(intros; try refine go_st ?_)
  refine go_loop (fun e h => ∃ (k : Nat) (zs : List Int) (a : Int) (ok : Bool), (k ≤ 7 ∧ zs.length = 7 ∧ (∀ z ∈ zs, I64 z) ∧ ((ok = true ∧ 0 ≤ a ∧ nums l k = some (zs.take k, a.toNat)) ∨ (ok = false ∧ nums l 7 = none))) ∧ e 16 = .int .i64 k ∧
   e 1 = .pointer (some ⟨b1, 0, none⟩) ∧ e 3 = .pointer (some ⟨b3, 0, none⟩) ∧ e 4 = .pointer (some ⟨b4, 0, none⟩) ∧ e 6 = .pointer (some ⟨b6, 0, none⟩) ∧ e 5 = .func (.func 129) #[] #[.pointer (some ⟨b1, 0, none⟩), .pointer (some ⟨b4, 0, none⟩), .pointer (some ⟨b3, 0, none⟩)] ∧
   h = ⟨G1, [.blk b4 [.int .i64 a], .blk b3 [.bool ok], .blk b6 (numC zs), .reg 2 [.int .i64 0, .int .i64 0, .int .i64 0, .int .i64 0, .int .i64 0, .int .i64 0, .int .i64 0, .bool false, .int .i64 0, .slice none 0 0]], []⟩) (fun e h => 7 - iv (e 16)) ?_ ?_
  ·exact ⟨0, [0, 0, 0, 0, 0, 0, 0], 0, true, ⟨Nat.zero_le _, rfl, by decide, .inl ⟨rfl, by omega, rfl⟩⟩, eE, eE, eE, eE, eE, eE, rfl⟩
  ·rintro e h ⟨k, zs, a, ok, ⟨hk, hzl, hzi, hst⟩, e16, e1, e3, e4, e6, e5, rfl⟩
   refine go_keep [1, 3, 4, 5, 6, 16] ?_
   refine sJ6 @e1 @e3 @e4 @e5 @e6 @e16 ?_
   intros; refine gr 0 0 ?_; refine sJ c119r6.eq_1 ?_
   intros; refine gc ?_; refine sI ?_
   refine gb (fun ht => ?_) (fun ht => ?_)
   ·have hk7 : k < 7 := by have := of_decide_eq_true ht; omega
    have hw := inc_i k 7 hk7 (by unfold maxLen; omega)
    have hi := getV_i l a
    intros; refine gN ?_
    intros; refine gr 18 19 ?_; refine sJ c119r7.eq_1 ?_
    intros; refine gr 19 23 ?_; refine sJ c119r8.eq_1 ?_
    refine .inl ⟨_, _, rfl, ?_⟩
    refine (number_ok l a ok b1 b3 b4 _ G1 hl1 h1 _ []).mono ?_
    rintro r h' ⟨G', L', rfl, -, rfl, rfl, rfl⟩
    refine sI ?_
    refine ⟨by omega, ?_⟩
    rw [show 0 + k * 1 = k by omega]
    refine stX_blk [_, _] [_] rfl (by simp [numC]; omega) ⟨rfl, rfl⟩ ?_
    simp only [List.cons_append, List.nil_append]
    rw [splice_num (by omega)]
    refine sI ?_
    intros; refine gr 23 24 ?_; refine sJ2 c119r9.eq_1 @hw ?_
    (intros; try refine go_st ?_)
    refine go_l ⟨⟨k + 1, zs.set k (if (getV l a).2.2 = 0 then (getV l a).1 else 0), (if (getV l a).2.2 = 0 then (getV l a).2.1 else a), (if (getV l a).2.2 = 0 then ok else false), ⟨by omega, by simp [hzl], fun z hz => ?_, ?_⟩, eE, eE, eE, eE, eE, eE, rfl⟩, ?_⟩
    ·rcases List.mem_or_eq_of_mem_set hz with h | h
     ·exact hzi z h
     ·rw [h]; exact hi
    ·rcases hst with ⟨h1, h2, h3⟩ | ⟨h1, h2⟩
     ·by_cases hv : (getV l a).2.2 = 0
      ·rw [if_pos hv, if_pos hv, if_pos hv]
       refine .inl ⟨h1, getV_nn l a, ?_⟩
       rw [nums, h3, take_set (by omega)]
       simp only [Option.bind_some]
       rw [Int.toNat_of_nonneg h2, if_pos hv]
      ·rw [if_neg hv, if_neg hv, if_neg hv]
       refine .inr ⟨rfl, ?_⟩
       have : nums l (k + 1) = none := by
        rw [nums, h3]
        simp only [Option.bind_some]
        rw [Int.toNat_of_nonneg h2, if_neg hv]
       have := nums_none (7 - (k + 1)) (k + 1) this
       rwa [show k + 1 + (7 - (k + 1)) = 7 by omega] at this
     ·refine .inr ⟨?_, h2⟩
      rw [h1]
      split <;> rfl
    ·refine sI ?_
     omega
   ·have hk7 : k = 7 := by have := of_decide_eq_false ht; omega
    subst hk7
    rw [List.take_of_length_le (by omega)] at hst
    refine go_exit ?_
    refine sI ?_
    exact go_l ⟨zs, a, ok, ⟨hzl, hzi, hst⟩, ⟨eE, eE, eE, eE, eE⟩, rfl⟩
 rintro e h ⟨ns, a, ok, ⟨hnl, hni, hst⟩, ⟨e1, e3, e4, e6, e5⟩, rfl⟩
 refine go_keep [1, 3, 4, 5, 6] ?_
 refine sJ5 @e1 @e3 @e4 @e5 @e6 ?_
 have hbad : ∀ (fr : List Td) (e : Env) (a : Int) (ok : Bool), parseB 15 l = none → e 3 = .pointer (some ⟨b3, 0, none⟩) → go none Tryz.prog 155 v119.1 v119.2 (retQ o119 fun v h => ParseR 15 l h.G v) (Td.s ((SC.reg false c119r11).seq .ret) :: fr) e ⟨G1, [.blk b4 [.int .i64 a], .blk b3 [.bool ok], .blk b6 (numC ns), .reg 2 [.int .i64 0, .int .i64 0, .int .i64 0, .int .i64 0, .int .i64 0, .int .i64 0, .int .i64 0, .bool false, .int .i64 0, .slice none 0 0]], []⟩ := fun fr e a ok hx e3 => by
  refine go_keep [3] ?_
  refine sJ @e3 ?_
  intros; refine gr 59 60 ?_; refine sJ c119r11.eq_1 ?_
  refine stX_blk [_] [_, _] rfl (by simp) ⟨rfl, rfl⟩ ?_
  refine sI ?_
  (intros; try refine go_st ?_)
  refine go_ghost (ghost_sub (L' := [.blk b3 [.bool false], .reg 2 [.int .i64 0, .int .i64 0, .int .i64 0, .int .i64 0, .int .i64 0, .int .i64 0, .int .i64 0, .bool false, .int .i64 0, .slice none 0 0]]) (.cons _ (.cons_cons _ (.cons _ (List.Sublist.refl _))))) ?_
  refine go_ret (retQ_v (out := [.agg #[.int .i64 0, .int .i64 0, .int .i64 0, .int .i64 0, .int .i64 0, .int .i64 0, .int .i64 0, .bool false, .int .i64 0, .slice none 0 0], .bool false]) ?_ ?_)
  ·simp [o119, resV, Kx.getR, getB, blkO, ldC, Env.set]
  ·refine ⟨_, _, false, rfl, BE.zero, ?_⟩
   exact hx
 obtain ⟨n0, n1, n2, n3, n4, n5, n6, rfl⟩ : ∃ n0 n1 n2 n3 n4 n5 n6 : Int, ns = [n0, n1, n2, n3, n4, n5, n6] := by
  match ns, hnl with
  | [n0, n1, n2, n3, n4, n5, n6], _ => exact ⟨n0, n1, n2, n3, n4, n5, n6, rfl⟩
 have m3 : ∀ {x y z u : Kx.Item} {L : List Kx.Item}, z ∈ x :: y :: z :: u :: L := .tail _ (.tail _ (.head _))
 have m2 : ∀ {x y z u : Kx.Item} {L : List Kx.Item}, y ∈ x :: y :: z :: u :: L := .tail _ (.head _)
 have hA1 := hA.le hg1 (E' := UE) fun _ _ h => h
 unfold maxLen at hm
 intros; try refine go_seq ?_
 refine go_cut (fun e h => ∃ (p : Nat) (m : UInt8), (nums l 7 = some ([n0, n1, n2, n3, n4, n5, n6], p) ∧ l[p]? = some m ∧ m.toNat < 8 ∧ (0 ≤ n0 ∧ n0 ≤ 1099511627776) ∧ 0 ≤ n1 ∧ n1 ≤ 15) ∧
  (e 1 = .pointer (some ⟨b1, 0, none⟩) ∧ e 3 = .pointer (some ⟨b3, 0, none⟩) ∧ e 4 = .pointer (some ⟨b4, 0, none⟩) ∧ e 6 = .pointer (some ⟨b6, 0, none⟩) ∧ e 5 = .func (.func 129) #[] #[.pointer (some ⟨b1, 0, none⟩), .pointer (some ⟨b4, 0, none⟩), .pointer (some ⟨b3, 0, none⟩)]) ∧
  h = ⟨G1, [.blk b4 [.int .i64 (p : Int)], .blk b3 [.bool true], .blk b6 (numC [n0, n1, n2, n3, n4, n5, n6]), .reg 2 [.int .i64 0, .int .i64 0, .int .i64 0, .int .i64 0, .int .i64 0, .int .i64 0, .int .i64 0, .bool false, .int .i64 0, .slice none 0 0]], []⟩) ?_ ?_
 ·intros; refine gr 24 58 ?_; refine sJ c119r10.eq_1 ?_
  refine ⟨_, ldN_blk m2 rfl, ?_⟩
  refine sI ?_
  refine gd (fun k0 => ?_) (fun k0 => ?_)
  ·have k0 : ok = false := by simpa using k0
   refine sI ?_
   intros; refine gc ?_; refine sI ?_
   rcases hst with ⟨h, _⟩ | ⟨_, h⟩
   ·rw [h] at k0; cases k0
   ·refine hbad _ _ _ _ (by rw [parseB, h]; rfl) (eE)
  have k0 : ok = true := by simpa using k0
  subst k0
  rcases hst with ⟨-, ha, hnum⟩ | ⟨h, _⟩
  rotate_left
  ·cases h
  obtain ⟨p, rfl⟩ : ∃ p : Nat, a = p := ⟨a.toNat, by omega⟩
  rw [Int.toNat_natCast] at hnum
  have hb2 : parse2 15 l ([n0, n1, n2, n3, n4, n5, n6], p) = none → parseB 15 l = none := fun h => by rw [parseB, hnum]; exact h
  refine sI ?_
  refine ⟨_, ldN_blk (.head _) rfl, ?_⟩
  refine sI ?_
  refine ⟨_, ⟨_, rfl, .g h1⟩, ?_⟩
  refine sI ?_
  refine gd (fun k1 => ?_) (fun k1 => ?_)
  ·have k1 := of_decide_eq_true k1
   refine sI ?_
   intros; refine gc ?_; refine sI ?_
   refine hbad _ _ _ _ (hb2 ?_) (eE)
   rw [parse2, List.getElem?_eq_none (by dsimp only; omega)]
   rfl
  have k1 := of_decide_eq_false k1
  obtain ⟨m, hy⟩ : ∃ m, l[p]? = some m := ⟨l[p]'(by omega), List.getElem?_eq_getElem _⟩
  have hb3 : ¬ (m.toNat < 8 ∧ (0 ≤ n0 ∧ n0 ≤ 1099511627776) ∧ (0 ≤ n1 ∧ n1 ≤ 15)) → parseB 15 l = none := fun h => hb2 (by
   rw [parse2, hy]
   simp only [Option.bind_some]
   exact if_neg h)
  refine sI ?_
  refine ⟨_, ⟨_, rfl, .g h1⟩, ?_⟩
  refine sI ?_
  refine ⟨_, ldN_blk (.head _) rfl, ?_⟩
  refine sI ?_
  refine hA1.x_l1 hy rfl rfl ?_
  rintro a1 ha1 u hu
  cases hu
  refine sI ?_
  refine gd (fun k2 => ?_) (fun k2 => ?_)
  ·have k2 := of_decide_eq_true k2
   refine sI ?_
   intros; refine gc ?_; refine sI ?_
   exact hbad _ _ _ _ (hb3 fun h => by omega) (eE)
  have k2 := of_decide_eq_false k2
  refine sI ?_
  refine ⟨by omega, ?_⟩
  refine ⟨_, ldN_blk (o := 0) m3 rfl, ?_⟩
  refine sI ?_
  refine gd (fun k3 => ?_) (fun k3 => ?_)
  ·have k3 := of_decide_eq_true k3
   refine sI ?_
   intros; refine gc ?_; refine sI ?_
   exact hbad _ _ _ _ (hb3 fun h => by omega) (eE)
  have k3 := of_decide_eq_false k3
  refine sI ?_
  refine ⟨by omega, ?_⟩
  refine ⟨_, ldN_blk (o := 0) m3 rfl, ?_⟩
  refine sI ?_
  refine gd (fun k4 => ?_) (fun k4 => ?_)
  ·have k4 := of_decide_eq_true k4
   refine sI ?_
   intros; refine gc ?_; refine sI ?_
   exact hbad _ _ _ _ (hb3 fun h => by omega) (eE)
  have k4 := of_decide_eq_false k4
  refine sI ?_
  refine ⟨by omega, ?_⟩
  refine ⟨_, ldN_blk (o := 1) m3 rfl, ?_⟩
  refine sI ?_
  refine gd (fun k5 => ?_) (fun k5 => ?_)
  ·have k5 := of_decide_eq_true k5
   refine sI ?_
   intros; refine gc ?_; refine sI ?_
   exact hbad _ _ _ _ (hb3 fun h => by omega) (eE)
  have k5 := of_decide_eq_false k5
  refine sI ?_
  refine ⟨by omega, ?_⟩
  refine ⟨_, ldN_blk (o := 1) m3 rfl, ?_⟩
  refine sI ?_
  intros; refine gc ?_; refine sI ?_
  refine gb (fun k6 => ?_) (fun k6 => ?_)
  ·have k6 := of_decide_eq_true k6
   exact hbad _ _ _ _ (hb3 fun h => by omega) (eE)
  have k6 := of_decide_eq_false k6
  (intros; try refine go_st ?_)
  exact go_l ⟨p, m, ⟨hnum, hy, by omega, by omega, by omega, by omega⟩, ⟨eE, eE, eE, eE, eE⟩, rfl⟩
 clear hbad hst
 rintro e h ⟨p, m, ⟨hnum, hy, hm8, hn0, hn1, hn1'⟩, ⟨e1, e3, e4, e6, e5⟩, rfl⟩
 have hpl := (List.getElem?_eq_some_iff.1 hy).1
 have hb3 : parseB 15 l = parse3 l [n0, n1, n2, n3, n4, n5, n6] m (getV l ((p : Int) + 1)) := by
  rw [parseB, hnum]
  simp only [Option.bind_some]
  rw [parse2, hy]
  simp only [Option.bind_some]
  exact if_pos ⟨hm8, hn0, hn1, hn1'⟩
 refine go_keep [1, 3, 4, 5, 6] ?_
 refine sJ5 @e1 @e3 @e4 @e5 @e6 ?_
 have wp := inc_i p l.length hpl (by unfold maxLen; omega)
 have wl : IntKind.i64.wrap (n0 + n1) = n0 + n1 := by rw [w64_id] <;> omega
 intros; refine gr 60 64 ?_; refine sJ c119r12.eq_1 ?_
 refine ⟨_, ⟨_, rfl, .g h1⟩, ?_⟩
 refine sI ?_
 refine ⟨_, ldN_blk (.head _) rfl, ?_⟩
 refine sI ?_
 refine hA1.x_l1 hy rfl rfl ?_
 rintro a1 ha1 u hu
 cases hu
 refine sI ?_
 intros; refine gr 64 66 ?_; refine sJ c119r13.eq_1 ?_
 refine ⟨_, ldN_blk (.head _) rfl, ?_⟩
 refine sJ @wp ?_
 refine stX_blk [] [_, _, _] rfl (by simp) ⟨rfl, rfl⟩ ?_
 refine sI ?_
 intros; refine gr 66 90 ?_; refine sJ c119r14.eq_1 ?_
 refine ⟨by omega, ?_⟩
 refine ⟨_, ldN_blk (o := 0) m3 rfl, ?_⟩
 refine sI ?_
 refine ⟨by omega, ?_⟩
 refine ⟨_, ldN_blk (o := 0) m3 rfl, ?_⟩
 refine sI ?_
 refine ⟨by omega, ?_⟩
 refine ⟨_, ldN_blk (o := 1) m3 rfl, ?_⟩
 refine sJ @wl ?_
 refine ⟨by omega, ?_⟩
 refine ⟨_, ldN_blk (o := 2) m3 rfl, ?_⟩
 refine sI ?_
 refine ⟨by omega, ?_⟩
 refine ⟨_, ldN_blk (o := 3) m3 rfl, ?_⟩
 refine sI ?_
 refine ⟨by omega, ?_⟩
 refine ⟨_, ldN_blk (o := 4) m3 rfl, ?_⟩
 refine sI ?_
 refine ⟨by omega, ?_⟩
 refine ⟨_, ldN_blk (o := 5) m3 rfl, ?_⟩
 refine sI ?_
 refine ⟨by omega, ?_⟩
 refine ⟨_, ldN_blk (o := 6) m3 rfl, ?_⟩
 have htx : decide ((if 4 ≤ m.toNat then (4 : Int) else 0) ≠ 0) = decide (4 ≤ m.toNat) := by split <;> simp_all
 have hct : IntKind.i64.wrap ((m.toNat % 4 : Nat) : Int) = ((m.toNat % 4 : Nat) : Int) := by rw [w64_id] <;> omega
 have hmk : ∀ rs, mkB [n0, n1, n2, n3, n4, n5, n6] m rs = ⟨n0, n0 + n1, n2, n3, n4, n5, n6, decide (4 ≤ m.toNat), ((m.toNat % 4 : Nat) : Int), rs⟩ := fun _ => rfl
 have hcti : I64 ((m.toNat % 4 : Nat) : Int) := by unfold I64; omega
 generalize decide (4 ≤ m.toNat) = tx at htx hmk
 have han := andNot_4 hm8
 generalize ((m.toNat % 4 : Nat) : Int) = ct at hct hmk hcti han
 (try simp -implicitDefEqProofs only [kR_e, kQ_e, push_cast, Nat.reduceBEq, Nat.reduceAdd, Nat.reduceSub, Nat.reduceMul, Nat.reduceLT, Nat.reduceLeDiff, Nat.reduceEqDiff, reduceIte, Bool.not_true, Bool.not_false, true_and, and_true, Option.map_some, Option.bind_some, Int.toNat_natCast, and_4 hm8, han, htx, hct])
 have m2' : ∀ {x y z u : Kx.Item} {L : List Kx.Item}, y ∈ x :: y :: z :: u :: L := .tail _ (.head _)
 have hi7 : I64 n0 ∧ I64 (n0 + n1) ∧ I64 n2 ∧ I64 n3 ∧ I64 n4 ∧ I64 n5 ∧ I64 n6 := ⟨hni _ (by simp), by unfold I64; omega, hni _ (by simp), hni _ (by simp), hni _ (by simp), hni _ (by simp), hni _ (by simp)⟩
 -- how many records
 intros; refine gr 90 92 ?_; refine sJ c119r15.eq_1 ?_
 refine .inl ⟨_, _, rfl, ?_⟩
 refine (number_ok l ((p : Int) + 1) true b1 b3 b4 _ G1 hl1 h1 _ []).mono ?_
 rintro r h' ⟨G', L', rfl, -, rfl, rfl, rfl⟩
 have hvok := @getV_ok l ((p : Int) + 1)
 generalize getV l ((p : Int) + 1) = v at hb3 hvok
 refine sI ?_
 have hbad : ∀ (fr : List Td) (e : Env) (a : Int) (ok : Bool), parseB 15 l = none → e 3 = .pointer (some ⟨b3, 0, none⟩) → go none Tryz.prog 155 v119.1 v119.2 (retQ o119 fun v h => ParseR 15 l h.G v) (Td.s ((SC.reg false c119r17).seq .ret) :: fr) e ⟨G1, [.blk b4 [.int .i64 a], .blk b3 [.bool ok], .blk b6 (numC [n0, n1, n2, n3, n4, n5, n6]), .reg 2 [.int .i64 n0, .int .i64 (n0 + n1), .int .i64 n2, .int .i64 n3, .int .i64 n4, .int .i64 n5, .int .i64 n6, .bool tx, .int .i64 ct, .slice none 0 0]], []⟩ := fun fr e a ok hx e3 => by
  refine go_keep [3] ?_
  refine sJ @e3 ?_
  intros; refine gr 102 103 ?_; refine sJ c119r17.eq_1 ?_
  refine stX_blk [_] [_, _] rfl (by simp) ⟨rfl, rfl⟩ ?_
  refine sI ?_
  (intros; try refine go_st ?_)
  refine go_ghost (ghost_sub (L' := [.blk b3 [.bool false], .reg 2 [.int .i64 0, .int .i64 0, .int .i64 0, .int .i64 0, .int .i64 0, .int .i64 0, .int .i64 0, .bool false, .int .i64 0, .slice none 0 0]]) (.cons _ (.cons_cons _ (.cons _ (List.Sublist.refl _))))) ?_
  refine go_ret (retQ_v (out := [.agg #[.int .i64 0, .int .i64 0, .int .i64 0, .int .i64 0, .int .i64 0, .int .i64 0, .int .i64 0, .bool false, .int .i64 0, .slice none 0 0], .bool false]) ?_ ?_)
  ·simp [o119, resV, Kx.getR, getB, blkO, ldC, Env.set]
  ·exact ⟨_, _, false, rfl, BE.zero, hx⟩
 intros; try refine go_seq ?_
 refine go_cut (fun e h => (v.2.2 = 0 ∧ 0 ≤ v.1 ∧ v.1 ≤ 16) ∧ (e 1 = .pointer (some ⟨b1, 0, none⟩) ∧ e 3 = .pointer (some ⟨b3, 0, none⟩) ∧ e 4 = .pointer (some ⟨b4, 0, none⟩) ∧ e 5 = .func (.func 129) #[] #[.pointer (some ⟨b1, 0, none⟩), .pointer (some ⟨b4, 0, none⟩), .pointer (some ⟨b3, 0, none⟩)]) ∧ e 9 = .int .i64 v.1 ∧ h = ⟨G1, [.blk b4 [.int .i64 v.2.1], .blk b3 [.bool true], .blk b6 (numC [n0, n1, n2, n3, n4, n5, n6]), .reg 2 [.int .i64 n0, .int .i64 (n0 + n1), .int .i64 n2, .int .i64 n3, .int .i64 n4, .int .i64 n5, .int .i64 n6, .bool tx, .int .i64 ct, .slice none 0 0]], []⟩) ?_ ?_
 ·by_cases hv0 : v.2.2 = 0
  ·have hbn : ¬ (0 ≤ v.1 ∧ v.1 ≤ 16) → parseB 15 l = none := fun h => by rw [hb3, parse3, if_neg fun hc => h hc.2]
   rw [if_pos hv0, if_pos hv0, if_pos hv0]
   intros; refine gr 92 101 ?_; refine sJ c119r16.eq_1 ?_
   refine ⟨_, ldN_blk m2' rfl, ?_⟩
   refine sI ?_
   refine gd (fun k1 => ?_) (fun k1 => ?_)
   ·have k1 := of_decide_eq_true k1
    refine sI ?_
    intros; refine gc ?_; refine sI ?_
    exact hbad _ _ _ _ (hbn fun h => by omega) (eE)
   have k1 := of_decide_eq_false k1
   refine sI ?_
   intros; refine gc ?_; refine sI ?_
   refine gb (fun k2 => ?_) (fun k2 => ?_)
   ·have k2 := of_decide_eq_true k2
    exact hbad _ _ _ _ (hbn fun h => by omega) (eE)
   have k2 := of_decide_eq_false k2
   (intros; try refine go_st ?_)
   exact go_l ⟨⟨hv0, by omega, by omega⟩, ⟨eE, eE, eE, eE⟩, eE, rfl⟩
  ·rw [if_neg hv0, if_neg hv0, if_neg hv0]
   intros; refine gr 92 101 ?_; refine sJ c119r16.eq_1 ?_
   refine ⟨_, ldN_blk m2' rfl, ?_⟩
   refine sI ?_
   intros; refine gc ?_; refine sI ?_
   exact hbad _ _ _ _ (by rw [hb3, parse3, if_neg fun hc => hv0 hc.1]) (eE)
 clear hbad
 rintro e h ⟨⟨hv0, hv1, hv2⟩, ⟨e1, e3, e4, e5⟩, e9, rfl⟩
 obtain ⟨many, hmany⟩ : ∃ n : Nat, v.1 = n := ⟨v.1.toNat, by omega⟩
 obtain ⟨pv, -, hv21, -, hpv, -⟩ := hvok hv0
 rw [hmany] at e9
 have hpn : 0 ≤ v.2.1 := by omega
 have hb4 : parseB 15 l = parse4 l [n0, n1, n2, n3, n4, n5, n6] m many (if 0 < many then getV l v.2.1 else (0, v.2.1, 0)) := by
  rw [hb3, parse3, if_pos ⟨hv0, hv1, hv2⟩, hmany]
  simp only [Int.toNat_natCast]
  congr 1
  by_cases h : 0 < many
  ·rw [if_pos h, if_pos (by omega)]
  ·rw [if_neg h, if_neg (by omega)]
 refine go_keep [1, 3, 4, 5, 9] ?_
 refine sJ5 @e1 @e3 @e4 @e5 @e9 ?_
 have hmany16 : many ≤ 16 := by omega
 generalize v.2.1 = p2 at hb4 hpn
 clear hb3 hvok hv21 hpv
 intros; refine gr 0 0 ?_; refine sJ c119r18.eq_1 ?_
 intros; try refine go_seq ?_
 refine go_cut (fun e h => ∃ (s : Int × Int × Int), (s = (if 0 < many then getV l p2 else (0, p2, 0))) ∧ (e 1 = .pointer (some ⟨b1, 0, none⟩) ∧ e 3 = .pointer (some ⟨b3, 0, none⟩) ∧ e 4 = .pointer (some ⟨b4, 0, none⟩) ∧ e 5 = .func (.func 129) #[] #[.pointer (some ⟨b1, 0, none⟩), .pointer (some ⟨b4, 0, none⟩), .pointer (some ⟨b3, 0, none⟩)]) ∧ e 9 = .int .i64 (many : Int) ∧ e 10 = .int .i64 (if s.2.2 = 0 then s.1 else 0) ∧ h = ⟨G1, [.blk b4 [.int .i64 (if s.2.2 = 0 then s.2.1 else p2)], .blk b3 [.bool (if s.2.2 = 0 then true else false)], .blk b6 (numC [n0, n1, n2, n3, n4, n5, n6]), .reg 2 [.int .i64 n0, .int .i64 (n0 + n1), .int .i64 n2, .int .i64 n3, .int .i64 n4, .int .i64 n5, .int .i64 n6, .bool tx, .int .i64 ct, .slice none 0 0]], []⟩) ?_ ?_
 ·intros; refine gr 103 104 ?_; refine sJ c119r19.eq_1 ?_
  intros; refine gc ?_; refine sI ?_
  refine gb (fun k1 => ?_) (fun k1 => ?_)
  ·have k1 := of_decide_eq_true k1
   intros; refine gr 105 107 ?_; refine sJ c119r20.eq_1 ?_
   refine .inl ⟨_, _, rfl, ?_⟩
   refine (number_ok l p2 true b1 b3 b4 _ G1 hl1 h1 _ []).mono ?_
   rintro r h' ⟨G', L', rfl, -, rfl, rfl, rfl⟩
   refine sI ?_
   (intros; try refine go_st ?_)
   exact go_l ⟨getV l p2, by rw [if_pos (by omega)], ⟨eE, eE, eE, eE⟩, eE, eE, rfl⟩
  ·have k1 := of_decide_eq_false k1
   (intros; try refine go_st ?_)
   exact go_l ⟨(0, p2, 0), by rw [if_neg (by omega)], ⟨eE, eE, eE, eE⟩, eE, eE, rfl⟩
 rintro e h ⟨s, hs, ⟨e1, e3, e4, e5⟩, e9, e10, rfl⟩
 rw [← hs] at hb4
 have hsn : 0 ≤ s.2.1 := by
  rw [hs]
  split
  ·exact getV_nn _ _
  ·exact hpn
 clear hs
 refine go_keep [1, 3, 4, 9, 10] ?_
 refine sJ5 @e1 @e3 @e4 @e9 @e10 ?_
 have hb5 : parseB 15 l = if s.2.2 = 0 then (recsG l n0 s.1 s.2.1.toNat many).bind fun r => if r.2 = l.length ∧ stOk r.1 s.1 = true then some (mkB [n0, n1, n2, n3, n4, n5, n6] m r.1) else none else none := hb4
 clear hb4
 obtain ⟨st, hst⟩ : ∃ st, st = (if s.2.2 = 0 then s.1 else 0) := ⟨_, rfl⟩
 rw [← hst]
 intros; refine gr 0 0 ?_; refine sJ c119r21.eq_1 ?_
 intros
 refine go_ghost (ghost_sub (L' := [.blk b4 [.int .i64 (if s.2.2 = 0 then s.2.1 else p2)], .blk b3 [.bool (if s.2.2 = 0 then true else false)], .reg 2 [.int .i64 n0, .int .i64 (n0 + n1), .int .i64 n2, .int .i64 n3, .int .i64 n4, .int .i64 n5, .int .i64 n6, .bool tx, .int .i64 ct, .slice none 0 0]]) (.cons_cons _ (.cons_cons _ (.cons _ (List.Sublist.refl _))))) ?_
 refine go_ghost (ghost_nil none 65 5) ?_
 refine go_cut (fun e h => ∃ (rs : List Rec) (a : Int) (ok : Bool) (u : Value) (zc : List Value) (G' : Nat → Option Obj), ((ok = true ∧ s.2.2 = 0 ∧ recsG l n0 s.1 s.2.1.toNat many = some (rs, a.toNat) ∧ 0 ≤ a ∧ stOk rs s.1 = true) ∨ (ok = false ∧ parseB 15 l = none)) ∧ (rs.length ≤ 16 ∧ Gle G1 G' ∧ Cells RR 5 rs zc) ∧
  (e 1 = .pointer (some ⟨b1, 0, none⟩) ∧ e 3 = .pointer (some ⟨b3, 0, none⟩) ∧ e 4 = .pointer (some ⟨b4, 0, none⟩)) ∧ h = ⟨G', [.row u 65 5 rs.length zc, .blk b4 [.int .i64 a], .blk b3 [.bool ok], .reg 2 [.int .i64 n0, .int .i64 (n0 + n1), .int .i64 n2, .int .i64 n3, .int .i64 n4, .int .i64 n5, .int .i64 n6, .bool tx, .int .i64 ct, u]], []⟩) ?_ ?_
 ·(intros; try refine go_st ?_)
  refine go_loop (fun e h => ∃ (k : Nat) (rs : List Rec) (a : Int) (ok : Bool) (u : Value) (zc : List Value) (G' : Nat → Option Obj), (k ≤ many ∧ rs.length = k ∧ Gle G1 G' ∧ Cells RR 5 rs zc ∧ ((ok = true ∧ s.2.2 = 0 ∧ recsG l n0 s.1 s.2.1.toNat k = some (rs, a.toNat) ∧ 0 ≤ a ∧ stOk rs s.1 = true) ∨ (ok = false ∧ parseB 15 l = none))) ∧
   e 1 = .pointer (some ⟨b1, 0, none⟩) ∧ e 3 = .pointer (some ⟨b3, 0, none⟩) ∧ e 4 = .pointer (some ⟨b4, 0, none⟩) ∧ e 9 = .int .i64 (many : Int) ∧ e 10 = .int .i64 st ∧ e 11 = .int .i64 k ∧ h.G = G' ∧ h.D = [] ∧ [.row u 65 5 rs.length zc, .blk b4 [.int .i64 a], .blk b3 [.bool ok], .reg 2 [.int .i64 n0, .int .i64 (n0 + n1), .int .i64 n2, .int .i64 n3, .int .i64 n4, .int .i64 n5, .int .i64 n6, .bool tx, .int .i64 ct, u]].Sublist h.L) (fun e h => many - iv (e 11)) ?_ ?_
  ·refine ⟨0, [], _, _, _, [], G1, ⟨Nat.zero_le _, rfl, .refl _, .nil, ?_⟩, eE, eE, eE, eE, eE, eE, rfl, rfl, List.Sublist.refl _⟩
   by_cases h : s.2.2 = 0
   ·rw [if_pos h, if_pos h]
    exact .inl ⟨rfl, h, rfl, hsn, rfl⟩
   ·rw [if_neg h, if_neg h]
    exact .inr ⟨rfl, by rw [hb5, if_neg h]⟩
  ·rintro e ⟨G', L, D⟩ ⟨k, rs, a, ok, u, zc, G2, ⟨hk, hrl, hgg, hcs, hor⟩, e1, e3, e4, e9, e10, e11, hG, hD, hL⟩
   dsimp only at hG hD hL
   subst hG hD
   refine go_ghost (ghost_sub hL) ?_
   refine go_keep [1, 3, 4, 9, 10, 11] ?_
   refine sJ6 @e1 @e3 @e4 @e9 @e10 @e11 ?_
   intros; refine gr 107 112 ?_; refine sJ c119r22.eq_1 ?_
   refine gd (fun k1 => ?_) (fun k1 => ?_)
   rotate_left
   ·have k1 : k = many := by have := of_decide_eq_false k1; omega
    subst k1
    refine sI ?_
    intros; refine gc ?_; refine sI ?_
    refine go_exit ?_
    refine sI ?_
    exact go_l ⟨rs, a, ok, u, zc, G', hor, ⟨by omega, hgg, hcs⟩, ⟨eE, eE, eE⟩, rfl⟩
   have k1 : k < many := by have := of_decide_eq_true k1; omega
   refine sI ?_
   refine ⟨_, ldN_blk (.tail _ (.tail _ (.head _))) rfl, ?_⟩
   refine sI ?_
   intros; refine gc ?_; refine sI ?_
   refine gb (fun k2 => ?_) (fun k2 => ?_)
   rotate_left
   ·rcases hor with ⟨h, -⟩ | ⟨_, h⟩
    ·rw [h] at k2; cases k2
    refine go_exit ?_
    refine sI ?_
    exact go_l ⟨rs, a, ok, u, zc, G', .inr ⟨k2, h⟩, ⟨by omega, hgg, hcs⟩, ⟨eE, eE, eE⟩, rfl⟩
   subst k2
   rcases hor with ⟨-, hs0, hrg, ha, hso⟩ | ⟨h, _⟩
   rotate_left
   ·cases h
   rw [if_pos hs0] at hst
   subst hst
   have hw := inc_i k many k1 (by unfold maxLen; omega)
   obtain ⟨pa, rfl⟩ : ∃ n : Nat, a = n := ⟨a.toNat, by omega⟩
   rw [Int.toNat_natCast] at hrg
   have hrec := RGet_ok l pa n0 s.1 _ G' (SB.le hl1 hgg)
   have hrr := getR_RR l pa n0 s.1
   have hnxt : recsG l n0 s.1 s.2.1.toNat (k + 1) = if (getR l pa n0 s.1).2.2 = 0 then some (rs ++ [(getR l pa n0 s.1).1], (getR l pa n0 s.1).2.1.toNat) else none := by
    rw [recsG, hrg]
    rfl
   have hnn := getR_nn l pa n0 s.1
   generalize getR l pa n0 s.1 = q at hrec hrr hnxt hnn
   obtain ⟨r, nx, er⟩ := q
   dsimp only at hrr hnxt hrec hnn
   have hrr0 := hrr.1
   unfold cellR at hrec hrr
   intros; refine gN ?_
   intros; refine gr 115 125 ?_; refine sJ c119r23.eq_1 ?_
   refine ⟨_, ⟨_, rfl, .g (cellG_le hgg h1)⟩, ?_⟩
   refine sI ?_
   refine ⟨_, ldN_blk (.tail _ (.head _)) rfl, ?_⟩
   refine sI ?_
   refine (hrec _ _).mono ?_
   rintro r h' ⟨rfl, rfl⟩
   refine sI ?_
   intros; try refine go_seq ?_
   refine go_cut (fun e h => (e 1 = .pointer (some ⟨b1, 0, none⟩) ∧ e 3 = .pointer (some ⟨b3, 0, none⟩) ∧ e 4 = .pointer (some ⟨b4, 0, none⟩)) ∧ (e 9 = .int .i64 (many : Int) ∧ e 10 = .int .i64 s.1 ∧ e 11 = .int .i64 k ∧ e 13 = .int .i64 nx) ∧ h = ⟨G', [.reg 12 [.int .i64 r.off, .string r.key, .string r.val, .bool r.dead, .int .i64 r.stamp], .row u 65 5 rs.length zc, .blk b4 [.int .i64 (pa : Int)], .blk b3 [.bool (decide (er = 0) && (decide (0 < k) || decide (r.stamp = s.1)))], .reg 2 [.int .i64 n0, .int .i64 (n0 + n1), .int .i64 n2, .int .i64 n3, .int .i64 n4, .int .i64 n5, .int .i64 n6, .bool tx, .int .i64 ct, u]], []⟩) ?_ ?_
   ·intros; refine gr 125 140 ?_; refine sJ c119r24.eq_1 ?_
    refine ⟨_, ldN_blk (.tail _ (.tail _ (.tail _ (.head _)))) rfl, ?_⟩
    refine sI ?_
    refine gd (fun k2 => ?_) (fun k2 => ?_)
    ·have k3 := of_decide_eq_true k2
     refine sI ?_
     refine gd (fun k4 => ?_) (fun k4 => ?_)
     ·have k5 := of_decide_eq_true k4
      refine sI ?_
      refine stX_blk [_, _, _] [_] rfl (by simp) ⟨rfl, rfl⟩ ?_
      refine sI ?_
      (intros; try refine go_st ?_)
      refine go_l ⟨⟨eE, eE, eE⟩, ⟨eE, eE, eE, eE⟩, ?_⟩
      rw [decide_eq_true k3, decide_eq_true (show 0 < k by omega)]
      rfl
     ·have k5 := of_decide_eq_false k4
      refine sI ?_
      refine stX_blk [_, _, _] [_] rfl (by simp) ⟨rfl, rfl⟩ ?_
      refine sI ?_
      (intros; try refine go_st ?_)
      refine go_l ⟨⟨eE, eE, eE⟩, ⟨eE, eE, eE, eE⟩, ?_⟩
      rw [decide_eq_true k3, decide_eq_false (show ¬ 0 < k by omega)]
      rfl
    ·have k3 := of_decide_eq_false k2
     refine sI ?_
     refine stX_blk [_, _, _] [_] rfl (by simp) ⟨rfl, rfl⟩ ?_
     refine sI ?_
     (intros; try refine go_st ?_)
     refine go_l ⟨⟨eE, eE, eE⟩, ⟨eE, eE, eE, eE⟩, ?_⟩
     rw [decide_eq_false k3]
     rfl
   rintro e h ⟨⟨e1, e3, e4⟩, ⟨e9, e10, e11, e13⟩, rfl⟩
   refine go_keep [1, 3, 4, 9, 10, 11, 13] ?_
   refine sJ7 @e1 @e3 @e4 @e9 @e10 @e11 @e13 ?_
   have hok : ∀ (j : Nat), j = k → ((decide (er = 0) && (decide (0 < k) || decide (r.stamp = s.1))) = true ∧ s.2.2 = 0 ∧ recsG l n0 s.1 s.2.1.toNat (k + 1) = some (rs ++ [r], nx.toNat) ∧ 0 ≤ nx ∧ stOk (rs ++ [r]) s.1 = true) ∨ ((decide (er = 0) && (decide (0 < k) || decide (r.stamp = s.1))) = false ∧ parseB 15 l = none) := fun j _ => by
    by_cases h0 : er = 0
    ·rw [if_pos h0] at hnxt
     by_cases h1 : 0 < k
     ·refine .inl ⟨by simp [h0, h1], hs0, hnxt, hnn, ?_⟩
      match rs, hrl, hso with
      | x :: xs, _, hso => exact hso
      | [], hrl, _ => simp at hrl; omega
     ·have hk0 : k = 0 := by omega
      have hrs : rs = [] := List.eq_nil_of_length_eq_zero (by omega)
      subst hrs
      by_cases h2 : r.stamp = s.1
      ·refine .inl ⟨by simp [h0, h2], hs0, hnxt, hnn, by simp [stOk, h2]⟩
      ·refine .inr ⟨by simp [h0, h1, h2], ?_⟩
       rw [hb5, if_pos hs0]
       cases hrm : recsG l n0 s.1 s.2.1.toNat many with
       | none => rfl
       | some q =>
        simp only [Option.bind_some]
        have hpre := recsG_pre hrm (k + 1) (by omega)
        rw [hnxt] at hpre
        obtain ⟨q2, hq, t, ht⟩ := hpre
        cases hq
        refine if_neg fun hc => ?_
        rw [ht] at hc
        have := hc.2
        simp [stOk, h2] at this
    ·rw [if_neg h0] at hnxt
     refine .inr ⟨by simp [h0], ?_⟩
     have := recsG_none (many - (k + 1)) (k + 1) hnxt
     rw [show k + 1 + (many - (k + 1)) = many by omega] at this
     rw [hb5, if_pos hs0, this]
     rfl
   have hok := hok k rfl
   generalize (decide (er = 0) && (decide (0 < k) || decide (r.stamp = s.1))) = ok at hok ⊢
   intros; refine gr 140 141 ?_; refine sJ c119r25.eq_1 ?_
   refine stX_blk [_, _] [_, _] rfl (by simp) ⟨rfl, rfl⟩ ?_
   refine sI ?_
   intros; refine gr 142 146 ?_; refine sJ c119r26.eq_1 ?_
   intro bk hbk
   refine app1 (L1 := [_]) (L2 := [_, _, _]) (E := RR) (x := r) rfl hrr rfl (by simp [Value.oneCell']) hcs (by omega) (by omega) fun A' c' zc' hzc => ?_
   refine sI ?_
   intros; refine gr 113 115 ?_; refine sJ2 c119r27.eq_1 @hw ?_
   (intros; try refine go_st ?_)
   refine go_l ⟨⟨k + 1, rs ++ [r], nx, ok, _, zc', G', ⟨by omega, by simp [hrl], hgg, hzc, hok⟩, eE, eE, eE, eE, eE, eE, rfl, rfl, .cons _ (.cons _ (List.Sublist.refl _))⟩, ?_⟩
   refine sI ?_
   omega
 rintro e h ⟨rs, a, ok, u, zc, G', hor, ⟨hrl, hgg, hcs⟩, ⟨e1, e3, e4⟩, rfl⟩
 refine go_keep [1, 3, 4] ?_
 refine sJ3 @e1 @e3 @e4 ?_
 intros
 refine go_gx (gx_slv_at [] _ (by decide) hcs) ?_
 rintro h' ⟨G2, rfl, hg2, B, d, rfl, hd1, hd2, hB⟩
 refine go_ghost (ghost_perm (.swap _ _ _)) ?_
 have h12 := cellG_le (hgg.trans hg2) h1
 have hfin : ∀ (t : Bool), (if t = true then parseB 15 l = some ⟨n0, n0 + n1, n2, n3, n4, n5, n6, tx, ct, rs⟩ else parseB 15 l = none) → ParseR 15 l G2 (.tuple #[.agg #[.int .i64 n0, .int .i64 (n0 + n1), .int .i64 n2, .int .i64 n3, .int .i64 n4, .int .i64 n5, .int .i64 n6, .bool tx, .int .i64 ct, .slice B rs.length d], .bool t]) := fun t ht =>
  ⟨⟨n0, n0 + n1, n2, n3, n4, n5, n6, tx, ct, rs⟩, _, t, rfl, ⟨B, d, rfl, ⟨hd1, hd2, hB⟩, hi7.1, hi7.2.1, hi7.2.2.1, hi7.2.2.2.1, hi7.2.2.2.2.1, hi7.2.2.2.2.2.1, hi7.2.2.2.2.2.2, hcti⟩, ht⟩
 rcases hor with ⟨rfl, hs0, hrg, ha, hso⟩ | ⟨rfl, hno⟩
 ·(intros; try refine go_st ?_); refine go_w _ (List.Sublist.refl _) (by decide) ?_; refine sJ c119r28.eq_1 ?_
  refine ⟨_, ldN_blk (.head _) rfl, ?_⟩
  refine sI ?_
  refine ⟨_, ldN_blk (.tail _ (.head _)) rfl, ?_⟩
  refine sI ?_
  refine ⟨_, ⟨_, rfl, .g h12⟩, ?_⟩
  refine sI ?_
  refine stX_blk [] [_, _] rfl (by simp) ⟨rfl, rfl⟩ ?_
  refine sI ?_
  (intros; try refine go_st ?_)
  refine go_ret (retQ_v (out := [.agg #[.int .i64 n0, .int .i64 (n0 + n1), .int .i64 n2, .int .i64 n3, .int .i64 n4, .int .i64 n5, .int .i64 n6, .bool tx, .int .i64 ct, .slice B rs.length d], .bool (decide (a = (l.length : Int)))]) ?_ ?_)
  ·simp [o119, resV, Kx.getR, getB, blkO, ldC, Env.set]
  ·refine hfin _ ?_
   rw [hb5, if_pos hs0, hrg]
   simp only [Option.bind_some]
   by_cases h : a = (l.length : Int)
   ·rw [if_pos (decide_eq_true h), if_pos ⟨by omega, hso⟩, hmk]
   ·rw [if_neg (by simpa using h), if_neg (fun hc => h (by omega))]
 ·(intros; try refine go_st ?_); refine go_w _ (List.Sublist.refl _) (by decide) ?_; refine sJ c119r28.eq_1 ?_
  refine ⟨_, ldN_blk (.head _) rfl, ?_⟩
  refine sI ?_
  refine stX_blk [] [_, _] rfl (by simp) ⟨rfl, rfl⟩ ?_
  refine sI ?_
  (intros; try refine go_st ?_)
  refine go_ret (retQ_v (out := [.agg #[.int .i64 n0, .int .i64 (n0 + n1), .int .i64 n2, .int .i64 n3, .int .i64 n4, .int .i64 n5, .int .i64 n6, .bool tx, .int .i64 ct, .slice B rs.length d], .bool false]) ?_ ?_)
  ·simp [o119, resV, Kx.getR, getB, blkO, ldC, Env.set]
  ·exact hfin false hno
theorem F106 : Fun Tryz.prog 106 171 v106 c106 o106 := Fun.mkA Tryz.func106 Tryz.ntmps106
theorem getN_1n {l : List UInt8} {p : Nat} (h : l[p]? = none) : getN l (p : Int) 1 = (0, 10) := by
 have := List.getElem?_eq_none_iff.1 h
 rw [getN_nat, if_pos (by simp; omega)]
theorem getN_1s {l : List UInt8} {p : Nat} {m : UInt8} (h : l[p]? = some m) : getN l (p : Int) 1 = (m.toNat, 0) := by
 have h2 := List.getElem?_eq_some_iff.1 h
 have h3 := h2.1
 rw [getN_nat, if_neg (by simp; omega), List.drop_eq_getElem_cons h2.1, h2.2]
 simp [numB]
set_option maxHeartbeats 2000000 in
theorem body_ok (l : List UInt8) (v : Value) (G : Nat → Option Obj) (hl : SB G v l) (hb : l.length ≤ 1000000) : FnD Tryz.prog 106 #[v] G (ParseR 16 l) := by
 refine F106.fnD (by simp) (go_of ?_)
 have hl00 := hl
 obtain ⟨A, c, rfl, hc, hm, hA⟩ := hl
 unfold c106
 intros; refine gr 0 0 ?_; refine sJ c106r0.eq_1 ?_
 intros; refine gr 0 0 ?_; refine sJ c106r1.eq_1 ?_
 intros; refine gr 0 0 ?_; refine sJ c106r2.eq_1 ?_
 intros; refine gr 21 22 ?_; refine sJ c106r3.eq_1 ?_
 intro b6 hb6
 refine sI ?_
 refine stX_blk [] [_, _] rfl (by simp) ⟨rfl, rfl⟩ ?_
 refine sI ?_
 intros; refine gr 0 0 ?_; refine sJ c106r4.eq_1 ?_
 intros
 refine go_cut (fun e h => ∃ (ns : List Int) (p : Nat), (ns.length = 7 ∧ (∀ z ∈ ns, I64 z) ∧ nums l 7 = some (ns, p)) ∧
  (e 0 = .slice A l.length c ∧ e 5 = .int .i64 (p : Int) ∧ e 6 = .pointer (some ⟨b6, 0, none⟩)) ∧ h = ⟨G, [.blk b6 (numC ns), .reg 4 [.int .i64 0, .int .i64 0, .int .i64 0, .int .i64 0, .int .i64 0, .int .i64 0, .int .i64 0, .bool false, .int .i64 0, .slice none 0 0], .reg 2 [.int .i64 0, .int .i64 0, .int .i64 0, .int .i64 0, .int .i64 0, .int .i64 0, .int .i64 0, .bool false, .int .i64 0, .slice none 0 0]], []⟩) ?_ ?_
 ·(intros; try refine go_st ?_)
  refine go_loop (fun e h => ∃ (k : Nat) (zs : List Int) (p : Nat), (k ≤ 7 ∧ zs.length = 7 ∧ (∀ z ∈ zs, I64 z) ∧ nums l k = some (zs.take k, p)) ∧ e 22 = .int .i64 k ∧
   e 0 = .slice A l.length c ∧ e 5 = .int .i64 (p : Int) ∧ e 6 = .pointer (some ⟨b6, 0, none⟩) ∧ h = ⟨G, [.blk b6 (numC zs), .reg 4 [.int .i64 0, .int .i64 0, .int .i64 0, .int .i64 0, .int .i64 0, .int .i64 0, .int .i64 0, .bool false, .int .i64 0, .slice none 0 0], .reg 2 [.int .i64 0, .int .i64 0, .int .i64 0, .int .i64 0, .int .i64 0, .int .i64 0, .int .i64 0, .bool false, .int .i64 0, .slice none 0 0]], []⟩) (fun e h => 7 - iv (e 22)) ?_ ?_
  ·exact ⟨0, [0, 0, 0, 0, 0, 0, 0], 0, ⟨Nat.zero_le _, rfl, by decide, rfl⟩, eE, eE, eE, eE, rfl⟩
  ·rintro e h ⟨k, zs, p, ⟨hk, hzl, hzi, hn⟩, e22, e0, e5, e6, rfl⟩
   refine go_keep [0, 5, 6, 22] ?_
   refine sJ4 @e0 @e5 @e6 @e22 ?_
   intros; refine gr 0 0 ?_; refine sJ c106r5.eq_1 ?_
   intros; refine gc ?_; refine sI ?_
   refine gb (fun ht => ?_) (fun ht => ?_)
   ·have hk7 : k < 7 := by have := of_decide_eq_true ht; omega
    have hw := inc_i k 7 hk7 (by unfold maxLen; omega)
    have hgv := RGetVar_ok l p _ G hl00
    have hnx : nums l (k + 1) = if (getV l p).2.2 = 0 then some (zs.take k ++ [(getV l p).1], (getV l p).2.1.toNat) else none := by
     rw [nums, hn]
     rfl
    have hi := @getV_ok l p
    have hnn := getV_nn l p
    generalize getV l p = q at hgv hnx hi hnn
    obtain ⟨x, nx, er⟩ := q
    dsimp only at hgv hnx hnn
    intros; refine gN ?_
    intros; refine gr 24 25 ?_; refine sJ c106r6.eq_1 ?_
    intros; refine gr 25 32 ?_; refine sJ c106r7.eq_1 ?_
    refine (hgv _ _).mono ?_; rintro _ _ ⟨rfl, rfl⟩; refine sI ?_
    intros; refine gr 32 33 ?_; refine sJ c106r8.eq_1 ?_
    intros; refine gc ?_; refine sI ?_
    refine gb (fun k1 => ?_) (fun k1 => ?_)
    ·have k1 := of_decide_eq_true k1
     have hx : parseB 16 l = none := by
      rw [if_neg k1] at hnx
      have := nums_none (7 - (k + 1)) (k + 1) hnx
      rw [show k + 1 + (7 - (k + 1)) = 7 by omega] at this
      rw [parseB, this]
      rfl
     intros; refine gr 34 35 ?_; refine sJ c106r9.eq_1 ?_
     intros; refine rV ?_; simp only [push_cast, Nat.reduceBEq]
     exact ⟨_, _, false, rfl, BE.zero, hx⟩
    have k1 : er = 0 := by simpa using k1
    rw [if_pos k1] at hnx
    obtain ⟨_, _, _, _, _, hxi⟩ := hi k1
    obtain ⟨nx, rfl⟩ : ∃ n : Nat, nx = n := ⟨nx.toNat, by omega⟩
    rw [Int.toNat_natCast] at hnx
    intros; refine gN ?_
    intros; refine gr 35 38 ?_; refine sJ c106r10.eq_1 ?_
    refine ⟨by omega, ?_⟩
    rw [show 0 + k * 1 = k by omega]
    refine stX_blk [] [_, _] rfl (by simp [numC]; omega) ⟨rfl, rfl⟩ ?_
    simp only [List.nil_append]
    rw [splice_num (by omega)]
    refine sI ?_
    intros; refine gr 38 39 ?_; refine sJ c106r11.eq_1 ?_
    intros; refine gr 39 40 ?_; refine sJ2 c106r12.eq_1 @hw ?_
    (intros; try refine go_st ?_)
    refine go_l ⟨⟨k + 1, zs.set k x, nx, ⟨by omega, by simp [hzl], fun z hz => ?_, by rw [take_set (by omega)]; exact hnx⟩, eE, eE, eE, eE, rfl⟩, ?_⟩
    ·rcases List.mem_or_eq_of_mem_set hz with h | h
     ·exact hzi z h
     ·rw [h]; exact hxi
    ·refine sI ?_
     omega
   ·have hk7 : k = 7 := by have := of_decide_eq_false ht; omega
    subst hk7
    rw [List.take_of_length_le (by omega)] at hn
    refine go_exit ?_
    refine sI ?_
    exact go_l ⟨zs, p, ⟨hzl, hzi, hn⟩, ⟨eE, eE, eE⟩, rfl⟩
 rintro e h ⟨ns, p, ⟨hnl, hni, hnum⟩, ⟨e0, e5, e6⟩, rfl⟩
 refine go_keep [0, 5, 6] ?_
 refine sJ3 @e0 @e5 @e6 ?_
 obtain ⟨n0, n1, n2, n3, n4, n5, n6, rfl⟩ : ∃ n0 n1 n2 n3 n4 n5 n6 : Int, ns = [n0, n1, n2, n3, n4, n5, n6] := by
  match ns, hnl with
  | [n0, n1, n2, n3, n4, n5, n6], _ => exact ⟨n0, n1, n2, n3, n4, n5, n6, rfl⟩
 have hb2 : parseB 16 l = parse2 16 l ([n0, n1, n2, n3, n4, n5, n6], p) := by rw [parseB, hnum]; rfl
 have hgn := RNGet_ok l p 1 (by omega) _ G hl00
 have hbad : ∀ (fr : List Td) (e : Env), parseB 16 l = none → go none Tryz.prog 171 v106.1 v106.2 (retQ o106 fun v h => ParseR 16 l h.G v) (Td.s ((SC.reg false c106r15).seq .ret) :: fr) e ⟨G, [.blk b6 (numC [n0, n1, n2, n3, n4, n5, n6]), .reg 4 [.int .i64 0, .int .i64 0, .int .i64 0, .int .i64 0, .int .i64 0, .int .i64 0, .int .i64 0, .bool false, .int .i64 0, .slice none 0 0], .reg 2 [.int .i64 0, .int .i64 0, .int .i64 0, .int .i64 0, .int .i64 0, .int .i64 0, .int .i64 0, .bool false, .int .i64 0, .slice none 0 0]], []⟩ := fun fr e hx => by
  intros; refine gr 52 53 ?_; refine sJ c106r15.eq_1 ?_
  intros; refine rV ?_; simp only [push_cast, Nat.reduceBEq]
  exact ⟨_, _, false, rfl, BE.zero, hx⟩
 have hbad2 : ∀ (fr : List Td) (e : Env), parseB 16 l = none → go none Tryz.prog 171 v106.1 v106.2 (retQ o106 fun v h => ParseR 16 l h.G v) (Td.s ((SC.reg false c106r18).seq .ret) :: fr) e ⟨G, [.blk b6 (numC [n0, n1, n2, n3, n4, n5, n6]), .reg 4 [.int .i64 0, .int .i64 0, .int .i64 0, .int .i64 0, .int .i64 0, .int .i64 0, .int .i64 0, .bool false, .int .i64 0, .slice none 0 0], .reg 2 [.int .i64 0, .int .i64 0, .int .i64 0, .int .i64 0, .int .i64 0, .int .i64 0, .int .i64 0, .bool false, .int .i64 0, .slice none 0 0]], []⟩ := fun fr e hx => by
  intros; refine gr 91 92 ?_; refine sJ c106r18.eq_1 ?_
  intros; refine rV ?_; simp only [push_cast, Nat.reduceBEq]
  exact ⟨_, _, false, rfl, BE.zero, hx⟩
 cases hy : l[p]? with
 | none =>
  rw [getN_1n hy] at hgn
  dsimp only at hgn
  have hx : parseB 16 l = none := by rw [hb2, parse2, hy]; rfl
  intros; refine gr 40 46 ?_; refine sJ c106r13.eq_1 ?_
  refine (hgn _ _).mono ?_; rintro _ _ ⟨rfl, rfl⟩; refine sI ?_
  intros; refine gr 46 51 ?_; refine sJ c106r14.eq_1 ?_
  refine gd (fun _ => ?_) (fun h => by simp at h)
  refine sI ?_
  intros; refine gc ?_; refine sI ?_
  exact hbad _ _ hx
 | some m =>
 rw [getN_1s hy] at hgn
 dsimp only at hgn
 have hpl := (List.getElem?_eq_some_iff.1 hy).1
 have hml := m.toNat_lt
 unfold maxLen at hm
 have hb3 : parseB 16 l = if m.toNat < 8 ∧ (0 ≤ n0 ∧ n0 ≤ 1099511627776) ∧ (0 ≤ n1 ∧ n1 ≤ 16) then parse3 l [n0, n1, n2, n3, n4, n5, n6] m (getV l ((p : Int) + 1)) else none := by
  rw [hb2, parse2, hy]
  rfl
 clear hb2
 have wp := inc_i p l.length hpl (by unfold maxLen; omega)
 intros; refine gr 40 46 ?_; refine sJ c106r13.eq_1 ?_
 refine (hgn _ _).mono ?_; rintro _ _ ⟨rfl, rfl⟩; refine sI ?_
 intros; refine gr 46 51 ?_; refine sJ c106r14.eq_1 ?_
 refine gd (fun h => by simp at h) (fun _ => ?_)
 refine sI ?_
 intros; refine gc ?_; refine sI ?_
 refine gb (fun k1 => ?_) (fun k1 => ?_)
 ·have k1 := of_decide_eq_true k1
  exact hbad _ _ (by rw [hb3, if_neg (fun h => by omega)])
 have k1 := of_decide_eq_false k1
 clear hbad
 have hgv := RGetVar_ok l ((p : Int) + 1) _ G hl00
 have hi := @getV_ok l ((p : Int) + 1)
 have hnn := getV_nn l ((p : Int) + 1)
 generalize getV l ((p : Int) + 1) = q at hgv hb3 hi hnn
 obtain ⟨x, nx, er⟩ := q
 dsimp only at hgv hnn
 intros; refine gN ?_
 intros; refine gr 53 61 ?_; refine sJ2 c106r16.eq_1 @wp ?_
 refine (hgv _ _).mono ?_; rintro _ _ ⟨rfl, rfl⟩; refine sI ?_
 have hf : ¬ ((0 ≤ n0 ∧ n0 ≤ 1099511627776) ∧ (0 ≤ n1 ∧ n1 ≤ 16) ∧ er = 0 ∧ 0 ≤ x ∧ x ≤ 16) → parseB 16 l = none := fun h => by
  rw [hb3]
  split
  ·rename_i hc
   exact if_neg fun h2 => h ⟨hc.2.1, hc.2.2, h2⟩
  ·rfl
 intros; refine gr 61 90 ?_; refine sJ c106r17.eq_1 ?_
 refine gd (fun k2 => ?_) (fun k2 => ?_)
 ·have k2 := of_decide_eq_true k2
  refine sI ?_
  intros; refine gc ?_; refine sI ?_
  exact hbad2 _ _ (hf fun h => k2 h.2.2.1)
 have k2 : er = 0 := by simpa using k2
 refine sI ?_
 refine gd (fun k3 => ?_) (fun k3 => ?_)
 ·have k3 := of_decide_eq_true k3
  refine sI ?_
  intros; refine gc ?_; refine sI ?_
  exact hbad2 _ _ (hf fun h => by omega)
 have k3 := of_decide_eq_false k3
 refine sI ?_
 refine gd (fun k4 => ?_) (fun k4 => ?_)
 ·have k4 := of_decide_eq_true k4
  refine sI ?_
  intros; refine gc ?_; refine sI ?_
  exact hbad2 _ _ (hf fun h => by omega)
 have k4 := of_decide_eq_false k4
 refine sI ?_
 refine ⟨by omega, ?_⟩
 refine ⟨_, ldN_blk (o := 1) (.head _) rfl, ?_⟩
 refine sI ?_
 refine gd (fun k5 => ?_) (fun k5 => ?_)
 ·have k5 := of_decide_eq_true k5
  refine sI ?_
  intros; refine gc ?_; refine sI ?_
  exact hbad2 _ _ (hf fun h => by omega)
 have k5 := of_decide_eq_false k5
 refine sI ?_
 refine ⟨by omega, ?_⟩
 refine ⟨_, ldN_blk (o := 1) (.head _) rfl, ?_⟩
 refine sI ?_
 refine gd (fun k6 => ?_) (fun k6 => ?_)
 ·have k6 := of_decide_eq_true k6
  refine sI ?_
  intros; refine gc ?_; refine sI ?_
  exact hbad2 _ _ (hf fun h => by omega)
 have k6 := of_decide_eq_false k6
 refine sI ?_
 refine ⟨by omega, ?_⟩
 refine ⟨_, ldN_blk (o := 0) (.head _) rfl, ?_⟩
 refine sI ?_
 refine gd (fun k7 => ?_) (fun k7 => ?_)
 ·have k7 := of_decide_eq_true k7
  refine sI ?_
  intros; refine gc ?_; refine sI ?_
  exact hbad2 _ _ (hf fun h => by omega)
 have k7 := of_decide_eq_false k7
 refine sI ?_
 refine ⟨by omega, ?_⟩
 refine ⟨_, ldN_blk (o := 0) (.head _) rfl, ?_⟩
 refine sI ?_
 intros; refine gc ?_; refine sI ?_
 refine gb (fun k8 => ?_) (fun k8 => ?_)
 ·have k8 := of_decide_eq_true k8
  exact hbad2 _ _ (hf fun h => by omega)
 have k8 := of_decide_eq_false k8
 clear hbad2 hf
 obtain ⟨many, rfl⟩ : ∃ n : Nat, x = n := ⟨x.toNat, by omega⟩
 have hmany16 : many ≤ 16 := by omega
 obtain ⟨pv, -, hv21, -, hpv, -⟩ := hi k2
 obtain ⟨p2, rfl⟩ : ∃ n : Nat, nx = n := ⟨nx.toNat, by omega⟩
 have hb4 : parseB 16 l = parse4 l [n0, n1, n2, n3, n4, n5, n6] m many (if 0 < many then getV l p2 else (0, (p2 : Int), 0)) := by
  rw [hb3, if_pos ⟨by omega, by omega, by omega⟩, parse3, if_pos ⟨k2, by omega, by omega⟩]
  simp only [Int.toNat_natCast]
  congr 1
  by_cases h : 0 < many
  ·rw [if_pos h, if_pos (by omega)]
  ·rw [if_neg h, if_neg (by omega)]
 clear hb3 hi hv21 hpv hgv hgn
 have wl : IntKind.i64.wrap (n0 + n1) = n0 + n1 := by rw [w64_id] <;> omega
 have htx : decide ((4 : Int) ≤ (m.toNat : Int)) = decide (4 ≤ m.toNat) := by
  by_cases h : 4 ≤ m.toNat
  ·rw [decide_eq_true h, decide_eq_true (by omega)]
  ·rw [decide_eq_false h, decide_eq_false (by omega)]
 have hct : IntKind.i64.wrap ((m.toNat % 4 : Nat) : Int) = ((m.toNat % 4 : Nat) : Int) := by rw [w64_id] <;> omega
 have hrm : binV .rem (.int .u64 (m.toNat : Int)) (.int .u64 4) = some (.int .u64 ((m.toNat % 4 : Nat) : Int)) := bin_rem .u64 m.toNat 4 (by decide)
 have hmk : ∀ rs, mkB [n0, n1, n2, n3, n4, n5, n6] m rs = ⟨n0, n0 + n1, n2, n3, n4, n5, n6, decide (4 ≤ m.toNat), ((m.toNat % 4 : Nat) : Int), rs⟩ := fun _ => rfl
 have hcti : I64 ((m.toNat % 4 : Nat) : Int) := by unfold I64; omega
 generalize decide (4 ≤ m.toNat) = tx at htx hmk
 generalize ((m.toNat % 4 : Nat) : Int) = ct at hct hmk hcti hrm
 have hi7 : I64 n0 ∧ I64 (n0 + n1) ∧ I64 n2 ∧ I64 n3 ∧ I64 n4 ∧ I64 n5 ∧ I64 n6 := ⟨hni _ (by simp), by unfold I64; omega, hni _ (by simp), hni _ (by simp), hni _ (by simp), hni _ (by simp), hni _ (by simp)⟩
 intros; refine gN ?_
 intros; refine gr 92 115 ?_; refine sJ c106r19.eq_1 ?_
 refine ⟨by omega, ?_⟩
 refine ⟨_, ldN_blk (o := 0) (.head _) rfl, ?_⟩
 refine sI ?_
 refine ⟨by omega, ?_⟩
 refine ⟨_, ldN_blk (o := 0) (.head _) rfl, ?_⟩
 refine sI ?_
 refine ⟨by omega, ?_⟩
 refine ⟨_, ldN_blk (o := 1) (.head _) rfl, ?_⟩
 refine sJ @wl ?_
 refine ⟨by omega, ?_⟩
 refine ⟨_, ldN_blk (o := 2) (.head _) rfl, ?_⟩
 refine sI ?_
 refine ⟨by omega, ?_⟩
 refine ⟨_, ldN_blk (o := 3) (.head _) rfl, ?_⟩
 refine sI ?_
 refine ⟨by omega, ?_⟩
 refine ⟨_, ldN_blk (o := 4) (.head _) rfl, ?_⟩
 refine sI ?_
 refine ⟨by omega, ?_⟩
 refine ⟨_, ldN_blk (o := 5) (.head _) rfl, ?_⟩
 refine sI ?_
 refine ⟨by omega, ?_⟩
 refine ⟨_, ldN_blk (o := 6) (.head _) rfl, ?_⟩
 (try simp -implicitDefEqProofs only [kR_e, kQ_e, push_cast, Nat.reduceBEq, Nat.reduceAdd, Nat.reduceSub, Nat.reduceMul, Nat.reduceLT, Nat.reduceLeDiff, Nat.reduceEqDiff, reduceIte, Bool.not_true, Bool.not_false, true_and, and_true, Option.map_some, Option.bind_some, Int.toNat_natCast, htx, hrm, hct])
 intros; refine gr 0 0 ?_; refine sJ c106r20.eq_1 ?_
 have hzero : ∀ (e : Env) (xs : List Value), True := fun _ _ => trivial
 have hout : ∀ {rs : List Rec} {B : Option Addr} {d : Nat} {G2 : Nat → Option Obj} (t : Bool), SlV G2 RR 5 (.slice B rs.length d) rs → (if t = true then parseB 16 l = some ⟨n0, n0 + n1, n2, n3, n4, n5, n6, tx, ct, rs⟩ else parseB 16 l = none) → ParseR 16 l G2 (.tuple #[.agg #[.int .i64 n0, .int .i64 (n0 + n1), .int .i64 n2, .int .i64 n3, .int .i64 n4, .int .i64 n5, .int .i64 n6, .bool tx, .int .i64 ct, .slice B rs.length d], .bool t]) := fun {rs B d G2} t hB ht => by
  obtain ⟨B', d', he, hd1, hd2, hB⟩ := hB
  cases he
  exact ⟨⟨n0, n0 + n1, n2, n3, n4, n5, n6, tx, ct, rs⟩, _, t, rfl, ⟨B, d, rfl, ⟨hd1, hd2, hB⟩, hi7.1, hi7.2.1, hi7.2.2.1, hi7.2.2.2.1, hi7.2.2.2.2.1, hi7.2.2.2.2.2.1, hi7.2.2.2.2.2.2, hcti⟩, ht⟩
 intros; try refine go_seq ?_
 refine go_cut (fun e h => ∃ (s : Int × Int × Int) (p3 : Nat), (s = (if 0 < many then getV l p2 else (0, (p2 : Int), 0)) ∧ s.2.2 = 0 ∧ s.2.1 = p3) ∧ (e 0 = .slice A l.length c ∧ e 5 = .int .i64 (p3 : Int) ∧ e 13 = .int .i64 (many : Int) ∧ e 14 = .int .i64 s.1) ∧
  h = ⟨G, [.blk b6 (numC [n0, n1, n2, n3, n4, n5, n6]), .reg 4 [.int .i64 n0, .int .i64 (n0 + n1), .int .i64 n2, .int .i64 n3, .int .i64 n4, .int .i64 n5, .int .i64 n6, .bool tx, .int .i64 ct, .slice none 0 0], .reg 2 [.int .i64 0, .int .i64 0, .int .i64 0, .int .i64 0, .int .i64 0, .int .i64 0, .int .i64 0, .bool false, .int .i64 0, .slice none 0 0]], []⟩) ?_ ?_
 ·intros; refine gr 115 116 ?_; refine sJ c106r21.eq_1 ?_
  intros; refine gc ?_; refine sI ?_
  refine gb (fun k1 => ?_) (fun k1 => ?_)
  ·have k1 := of_decide_eq_true k1
   rw [if_pos (by omega)] at hb4
   have hgv := RGetVar_ok l p2 _ G hl00
   have hnn := getV_nn l p2
   obtain ⟨s, hs⟩ : ∃ s, s = getV l p2 := ⟨_, rfl⟩
   rw [← hs] at hgv hb4 hnn
   intros; refine gr 117 124 ?_; refine sJ c106r22.eq_1 ?_
   refine (hgv _ _).mono ?_; rintro _ _ ⟨rfl, rfl⟩; refine sI ?_
   intros; refine gr 124 125 ?_; refine sJ c106r23.eq_1 ?_
   intros; refine gc ?_; refine sI ?_
   refine gb (fun k9 => ?_) (fun k9 => ?_)
   ·have k9 := of_decide_eq_true k9
    intros; refine gr 126 127 ?_; refine sJ c106r24.eq_1 ?_
    intros; refine rV ?_; simp only [push_cast, Nat.reduceBEq]
    exact hout (rs := []) false SlV.nil (by rw [hb4, parse4, if_neg k9]; rfl)
   have k9 : s.2.2 = 0 := by simpa using k9
   obtain ⟨p3, hp3⟩ : ∃ n : Nat, s.2.1 = n := ⟨s.2.1.toNat, by omega⟩
   intros; refine gN ?_
   intros; refine gr 127 128 ?_; refine sJ c106r25.eq_1 ?_
   intros; refine gr 128 129 ?_; refine sJ c106r26.eq_1 ?_
   (intros; try refine go_st ?_)
   exact go_l ⟨s, p3, ⟨by rw [if_pos (by omega), hs], k9, hp3⟩, ⟨eE, (eJ @hp3), eE, eE⟩, rfl⟩
  ·have k1 := of_decide_eq_false k1
   (intros; try refine go_st ?_)
   exact go_l ⟨(0, (p2 : Int), 0), p2, ⟨by rw [if_neg (by omega)], rfl, rfl⟩, ⟨eE, eE, eE, eE⟩, rfl⟩
 rintro e h ⟨s, p3, ⟨hs, hs0, hp3⟩, ⟨e0, e5, e13, e14⟩, rfl⟩
 rw [← hs] at hb4
 have hb5 : parseB 16 l = (recsG l n0 s.1 p3 many).bind fun r => if r.2 = l.length ∧ stOk r.1 s.1 = true then some (mkB [n0, n1, n2, n3, n4, n5, n6] m r.1) else none := by
  rw [hb4, parse4, if_pos hs0, hp3]
  rfl
 clear hb4 hs
 refine go_keep [0, 5, 13, 14] ?_
 refine sJ4 @e0 @e5 @e13 @e14 ?_
 intros; try refine go_seq ?_
 refine go_ghost (ghost_sub (L' := [.reg 4 [.int .i64 n0, .int .i64 (n0 + n1), .int .i64 n2, .int .i64 n3, .int .i64 n4, .int .i64 n5, .int .i64 n6, .bool tx, .int .i64 ct, .slice none 0 0], .reg 2 [.int .i64 0, .int .i64 0, .int .i64 0, .int .i64 0, .int .i64 0, .int .i64 0, .int .i64 0, .bool false, .int .i64 0, .slice none 0 0]]) (.cons _ (List.Sublist.refl _))) ?_
 refine go_ghost (ghost_nil none 65 5) ?_
 refine go_cut (fun e h => ∃ (rs : List Rec) (p : Nat) (u : Value) (zc : List Value) (G' : Nat → Option Obj), (recsG l n0 s.1 p3 many = some (rs, p) ∧ rs.length = many ∧ Gle G G' ∧ Cells RR 5 rs zc) ∧ (e 0 = .slice A l.length c ∧ e 5 = .int .i64 (p : Int) ∧ e 13 = .int .i64 (many : Int) ∧ e 14 = .int .i64 s.1) ∧
  h = ⟨G', [.row u 65 5 rs.length zc, .reg 4 [.int .i64 n0, .int .i64 (n0 + n1), .int .i64 n2, .int .i64 n3, .int .i64 n4, .int .i64 n5, .int .i64 n6, .bool tx, .int .i64 ct, u], .reg 2 [.int .i64 0, .int .i64 0, .int .i64 0, .int .i64 0, .int .i64 0, .int .i64 0, .int .i64 0, .bool false, .int .i64 0, .slice none 0 0]], []⟩) ?_ ?_
 ·intros; refine gr 0 0 ?_; refine sJ c106r27.eq_1 ?_
  (intros; try refine go_st ?_)
  refine go_loop (fun e h => ∃ (k : Nat) (rs : List Rec) (p : Nat) (u : Value) (zc : List Value) (G' : Nat → Option Obj), (k ≤ many ∧ rs.length = k ∧ Gle G G' ∧ Cells RR 5 rs zc ∧ recsG l n0 s.1 p3 k = some (rs, p)) ∧
   e 0 = .slice A l.length c ∧ e 5 = .int .i64 (p : Int) ∧ e 13 = .int .i64 (many : Int) ∧ e 14 = .int .i64 s.1 ∧ e 129 = .int .i64 (many : Int) ∧ e 130 = .int .i64 k ∧ h.G = G' ∧ h.D = [] ∧ [.row u 65 5 rs.length zc, .reg 4 [.int .i64 n0, .int .i64 (n0 + n1), .int .i64 n2, .int .i64 n3, .int .i64 n4, .int .i64 n5, .int .i64 n6, .bool tx, .int .i64 ct, u], .reg 2 [.int .i64 0, .int .i64 0, .int .i64 0, .int .i64 0, .int .i64 0, .int .i64 0, .int .i64 0, .bool false, .int .i64 0, .slice none 0 0]].Sublist h.L) (fun e h => many - iv (e 130)) ?_ ?_
  ·exact ⟨0, [], p3, _, [], G, ⟨Nat.zero_le _, rfl, .refl _, .nil, rfl⟩, eE, eE, eE, eE, eE, eE, rfl, rfl, List.Sublist.refl _⟩
  ·rintro e ⟨G', L, D⟩ ⟨k, rs, p, u, zc, G2, ⟨hk, hrl, hgg, hcs, hrg⟩, e0, e5, e13, e14, e129, e130, hG, hD, hL⟩
   dsimp only at hG hD hL
   subst hG hD
   refine go_ghost (ghost_sub hL) ?_
   refine go_keep [0, 5, 13, 14, 129, 130] ?_
   refine sJ6 @e0 @e5 @e13 @e14 @e129 @e130 ?_
   intros; refine gr 0 0 ?_; refine sJ c106r28.eq_1 ?_
   intros; refine gc ?_; refine sI ?_
   refine gb (fun k1 => ?_) (fun k1 => ?_)
   rotate_left
   ·have k1 : k = many := by have := of_decide_eq_false k1; omega
    subst k1
    refine go_exit ?_
    refine sI ?_
    exact go_l ⟨rs, p, u, zc, G', ⟨hrg, hrl, hgg, hcs⟩, ⟨eE, eE, eE, eE⟩, rfl⟩
   have k1 : k < many := by have := of_decide_eq_true k1; omega
   have hw := inc_i k many k1 (by unfold maxLen; omega)
   have hrec := RRGet_ok l p n0 s.1 _ G' (SB.le hl00 hgg)
   have hrr := getR_RR l p n0 s.1
   have hnxt : recsG l n0 s.1 p3 (k + 1) = if (getR l p n0 s.1).2.2 = 0 then some (rs ++ [(getR l p n0 s.1).1], (getR l p n0 s.1).2.1.toNat) else none := by
    rw [recsG, hrg]
    rfl
   have hnn := getR_nn l p n0 s.1
   generalize getR l p n0 s.1 = q at hrec hrr hnxt hnn
   obtain ⟨r, nx, er⟩ := q
   dsimp only at hrr hnxt hrec hnn
   unfold cellR at hrec hrr
   intros; refine gN ?_
   intros; refine gr 132 142 ?_; refine sJ c106r29.eq_1 ?_
   refine (hrec _ _).mono ?_
   rintro v h' ⟨rfl, rfl⟩
   refine sI ?_
   intros; refine gr 142 143 ?_; refine sJ c106r30.eq_1 ?_
   intros; refine gc ?_; refine sI ?_
   refine gb (fun k2 => ?_) (fun k2 => ?_)
   ·have k2 := of_decide_eq_true k2
    rw [if_neg k2] at hnxt
    have := recsG_none (many - (k + 1)) (k + 1) hnxt
    rw [show k + 1 + (many - (k + 1)) = many by omega] at this
    refine go_gx (gx_slv_at [_] _ (by decide) hcs) ?_
    rintro h' ⟨G2, rfl, hg2, hB⟩
    obtain ⟨B, d, rfl, -⟩ := id hB
    intros; refine gr 144 145 ?_; refine sJ c106r31.eq_1 ?_
    intros; refine rV ?_; simp only [push_cast, Nat.reduceBEq]
    exact hout false hB (by rw [hb5, this]; rfl)
   have k2 : er = 0 := by simpa using k2
   rw [if_pos k2] at hnxt
   obtain ⟨nx, rfl⟩ : ∃ n : Nat, nx = n := ⟨nx.toNat, by omega⟩
   rw [Int.toNat_natCast] at hnxt
   intros; refine gN ?_
   intros; refine gr 146 150 ?_; refine sJ c106r32.eq_1 ?_
   intro bk hbk
   refine app1 (L1 := [_]) (L2 := [_, _]) (E := RR) (x := r) rfl hrr rfl (by simp [Value.oneCell']) hcs (by omega) (by omega) fun A' c' zc' hzc => ?_
   refine sI ?_
   intros; refine gr 151 152 ?_; refine sJ c106r33.eq_1 ?_
   intros; refine gr 152 153 ?_; refine sJ2 c106r34.eq_1 @hw ?_
   (intros; try refine go_st ?_)
   refine go_l ⟨⟨k + 1, rs ++ [r], nx, _, zc', G', ⟨by omega, by simp [hrl], hgg, hzc, hnxt⟩, eE, eE, eE, eE, eE, eE, rfl, rfl, .cons _ (.cons _ (List.Sublist.refl _))⟩, ?_⟩
   refine sI ?_
   omega
 rintro e h ⟨rs, p, u, zc, G', ⟨hrg, hrl, hgg, hcs⟩, ⟨e0, e5, e13, e14⟩, rfl⟩
 refine go_keep [0, 5, 13, 14] ?_
 refine sJ4 @e0 @e5 @e13 @e14 ?_
 intros
 refine go_gx (gx_slv_at [] _ (by decide) hcs) ?_
 rintro h' ⟨G2, rfl, hg2, hB0⟩
 obtain ⟨B, d, rfl, hd1, hd2, hB⟩ := id hB0
 rw [hrg] at hb5
 simp only [Option.bind_some, hmk] at hb5
 (intros; try refine go_st ?_); refine go_w _ (.cons_cons _ (.cons _ (List.Sublist.refl _))) (by decide) ?_; refine sJ c106r35.eq_1 ?_
 refine gw (fun k1 => ?_) (fun k1 => ?_)
 rotate_left
 ·have k1 := of_decide_eq_false k1
  refine sI ?_
  refine ⟨grow_L (fun _ _ h => h) (.cons_cons _ (.cons _ (List.Sublist.refl _))), ?_⟩
  refine sI ?_
  intros; refine rV ?_; simp only [push_cast, Nat.reduceBEq]
  exact hout false hB0 (show parseB 16 l = none by rw [hb5, if_neg (fun h => by omega)])
 have k1 := of_decide_eq_true k1
 refine sI ?_
 refine gw (fun k2 => ?_) (fun k2 => ?_)
 ·have k2 := of_decide_eq_true k2
  have hrs : rs = [] := List.eq_nil_of_length_eq_zero (by omega)
  subst hrs
  refine sI ?_
  refine ⟨grow_L (fun _ _ h => h) (.cons_cons _ (.cons _ (List.Sublist.refl _))), ?_⟩
  refine sI ?_
  intros; refine rV ?_; simp only [push_cast, Nat.reduceBEq]
  exact hout true hB0 (show parseB 16 l = some _ by rw [hb5, if_pos ⟨by omega, rfl⟩])
 have k2 := of_decide_eq_false k2
 obtain ⟨r0, h0⟩ : ∃ r, rs[0]? = some r := ⟨rs[0]'(by omega), List.getElem?_eq_getElem _⟩
 have hso : stOk rs s.1 = decide (r0.stamp = s.1) := by
  match rs, h0 with
  | x :: xs, h0 => cases h0; rfl
 refine sI ?_
 refine hB.y_lf h0 rfl rfl (fun cs h => by rw [h.1]; rfl) fun a ha => ?_
 refine sI ?_
 refine ⟨grow_L (fun _ _ h => h) (.cons_cons _ (.cons _ (List.Sublist.refl _))), ?_⟩
 refine sI ?_
 intros; refine rV ?_; simp only [push_cast, Nat.reduceBEq]
 refine hout _ hB0 ?_
 by_cases h : r0.stamp = s.1
 ·rw [if_pos (decide_eq_true h), hb5, if_pos ⟨by omega, by rw [hso, decide_eq_true h]⟩]
 ·rw [if_neg (by simpa using h), hb5, if_neg (fun hc => by rw [hso] at hc; simp [h] at hc)]
theorem F102 : Fun Tryz.prog 102 68 v102 c102 o102 := Fun.mkA Tryz.func102 Tryz.ntmps102
theorem F91 : Fun Tryz.prog 91 68 v91 c91 o91 := Fun.mkA Tryz.func91 Tryz.ntmps91
def noneB : Batch := ⟨0, 0, 0, 0, 0, 0, 0, false, 0, []⟩
def chkP (w : Int) (l : List UInt8) : Option Batch := (parseB w l).bind fun x => if errB x = 0 then some x else none
def getB (l : List UInt8) (a : Int) : Batch × Int × Int :=
 if (getN l a 4).2 = 0 then
  if 5 ≤ (getN l a 4).1 ∧ (getN l a 4).1 ≤ 2044 then
   if (getN l a 4).1 ≤ (l.drop (a.toNat + 4)).length then
    if (openB ((l.drop (a.toNat + 4)).take (getN l a 4).1)).2 = 0 then
     match chkP 15 (openB ((l.drop (a.toNat + 4)).take (getN l a 4).1)).1 with
     | none => (noneB, 0, 11)
     | some x => (x, ((a.toNat + 4 + (getN l a 4).1 : Nat) : Int), 0)
    else (noneB, 0, (openB ((l.drop (a.toNat + 4)).take (getN l a 4).1)).2)
   else (noneB, 0, 10)
  else (noneB, 0, 11)
 else (noneB, 0, (getN l a 4).2)
def GetBR (l : List UInt8) (a : Int) (G : Nat → Option Obj) (r : Value) : Prop := ∃ cs, r = .tuple #[.agg cs.toArray, .int .i64 (getB l a).2.1, .int .i64 (getB l a).2.2] ∧ BE G (getB l a).1 cs
theorem getN_ok {l : List UInt8} {a : Int} {k : Nat} (h : (getN l a k).2 = 0) : 0 ≤ a ∧ a.toNat + k ≤ l.length ∨ (k = 0) := by
 unfold getN at h
 split at h
 ·cases h
 ·split at h
  ·cases h
  ·rename_i h1 h2
   by_cases hk : k = 0
   ·exact .inr hk
   ·left
    simp at h2
    omega
theorem getN_lt {l : List UInt8} {a : Int} : (getN l a 4).1 < 4294967296 := by
 unfold getN
 split
 ·decide
 ·split
  ·decide
  ·have := numB_lt ((l.drop a.toNat).take 4)
   have h2 : 256 ^ ((l.drop a.toNat).take 4).length ≤ 256 ^ 4 := Nat.pow_le_pow_right (by decide) (by simp; omega)
   omega
theorem openB_len (l : List UInt8) : (openB l).1.length ≤ l.length := by
 unfold openB
 split
 ·simp
 ·split
  ·simp
  ·simp
theorem form_span {x : Batch} (h : ¬ x.last - x.base < 16) : errB x ≠ 0 := by
 rw [errB_n fun hf => h hf.2.2.1.2.1]
 decide
theorem parse4_bad {l : List UInt8} {ns : List Int} {m : UInt8} (h : ∀ rs, errB (mkB ns m rs) ≠ 0) (many : Nat) (s : Int × Int × Int) : ((parse4 l ns m many s).bind fun x => if errB x = 0 then some x else none) = none := by
 unfold parse4
 split
 ·cases recsG l (ns.getD 0 0) s.1 s.2.1.toNat many with
  | none => rfl
  | some r =>
   simp only [Option.bind_some]
   split
   ·simp only [Option.bind_some]
    exact if_neg (h _)
   ·rfl
 ·rfl
theorem parse3_bad {l : List UInt8} {ns : List Int} {m : UInt8} (h : ∀ rs, errB (mkB ns m rs) ≠ 0) (v : Int × Int × Int) : ((parse3 l ns m v).bind fun x => if errB x = 0 then some x else none) = none := by
 unfold parse3
 split
 ·exact parse4_bad h _ _
 ·rfl
theorem chkP_16 (l : List UInt8) : chkP 16 l = chkP 15 l := by
 unfold chkP parseB
 cases nums l 7 with
 | none => rfl
 | some q =>
  simp only [Option.bind_some]
  unfold parse2
  cases l[q.2]? with
  | none => rfl
  | some m =>
   simp only [Option.bind_some]
   by_cases h15 : m.toNat < 8 ∧ (0 ≤ q.1.getD 0 0 ∧ q.1.getD 0 0 ≤ 1099511627776) ∧ (0 ≤ q.1.getD 1 0 ∧ q.1.getD 1 0 ≤ 15)
   ·rw [if_pos h15, if_pos ⟨h15.1, h15.2.1, by omega, by omega⟩]
   ·rw [if_neg h15]
    by_cases h16 : m.toNat < 8 ∧ (0 ≤ q.1.getD 0 0 ∧ q.1.getD 0 0 ≤ 1099511627776) ∧ (0 ≤ q.1.getD 1 0 ∧ q.1.getD 1 0 ≤ 16)
    ·rw [if_pos h16]
     have hs : q.1.getD 1 0 = 16 := by
      rcases Int.lt_or_le (q.1.getD 1 0) 16 with h | h
      ·exact absurd ⟨h16.1, h16.2.1, h16.2.2.1, by omega⟩ h15
      ·omega
     have key : ∀ rs, errB (mkB q.1 m rs) ≠ 0 := fun rs => form_span (by
      show ¬ q.1.getD 0 0 + q.1.getD 1 0 - q.1.getD 0 0 < 16
      omega)
     exact parse3_bad key _
    ·rw [if_neg h16]
theorem chkP_some {w : Int} {l : List UInt8} {x : Batch} (h : parseB w l = some x) (h0 : errB x = 0) : chkP w l = some x := by rw [chkP, h]; exact if_pos h0
theorem chkP_bad {w : Int} {l : List UInt8} {x : Batch} (h : parseB w l = some x) (h0 : ¬ errB x = 0) : chkP w l = none := by rw [chkP, h]; exact if_neg h0
theorem chkP_none {w : Int} {l : List UInt8} (h : parseB w l = none) : chkP w l = none := by rw [chkP, h]; rfl
set_option maxHeartbeats 2000000 in
theorem BGet_ok (l : List UInt8) (a : Int) (v : Value) (G : Nat → Option Obj) (hl : SB G v l) (hb : l.length ≤ 1000000) : FnD Tryz.prog 102 #[v, .int .i64 a] G (GetBR l a) := by
 have hl0 := hl
 obtain ⟨A, c, rfl, hc, hm, hA⟩ := hl
 unfold maxLen at hm
 refine F102.fnD (by simp) (go_of ?_)
 unfold c102
 have hng := NGet_ok l a 4 (by omega) _ G hl0
 have hnk := @getN_ok l a 4
 have hnl := @getN_lt l a
 intros; refine gr 0 0 ?_; refine sJ c102r0.eq_1 ?_
 intros; refine gr 11 17 ?_; refine sJ c102r1.eq_1 ?_
 refine (hng _ _).mono ?_; rintro _ _ ⟨rfl, rfl⟩; refine sI ?_
 intros; refine gr 17 18 ?_; refine sJ c102r2.eq_1 ?_
 intros; refine gc ?_; refine sI ?_
 refine gb (fun k1 => ?_) (fun k1 => ?_)
 ·have k1 := of_decide_eq_true k1
  intros; refine gr 19 21 ?_; refine sJ c102r3.eq_1 ?_
  intros; refine rV ?_; simp only [push_cast, Nat.reduceBEq]
  have hg : getB l a = (noneB, 0, (getN l a 4).2) := by rw [getB, if_neg k1]
  exact ⟨_, by rw [hg], by rw [hg]; exact BE.zero⟩
 have k1 : (getN l a 4).2 = 0 := by simpa using k1
 obtain ⟨ha, hal⟩ := (hnk k1).resolve_right (by decide)
 obtain ⟨a, rfl⟩ : ∃ n : Nat, a = n := ⟨a.toNat, by omega⟩
 rw [Int.toNat_natCast] at hal
 have hg : getB l (a : Int) = if 5 ≤ (getN l a 4).1 ∧ (getN l a 4).1 ≤ 2044 then
   if (getN l a 4).1 ≤ (l.drop (a + 4)).length then
    if (openB ((l.drop (a + 4)).take (getN l a 4).1)).2 = 0 then
     match chkP 15 (openB ((l.drop (a + 4)).take (getN l a 4).1)).1 with
     | none => (noneB, (0 : Int), (11 : Int))
     | some x => (x, ((a + 4 + (getN l a 4).1 : Nat) : Int), (0 : Int))
    else (noneB, (0 : Int), (openB ((l.drop (a + 4)).take (getN l a 4).1)).2)
   else (noneB, (0 : Int), (10 : Int))
  else (noneB, (0 : Int), (11 : Int)) := by rw [getB, if_pos k1]; rfl
 generalize (getN l a 4).1 = n at hg hnl
 have hbad : ¬ (5 ≤ n ∧ n ≤ 2044) → ∀ (fr : List Td) (e : Env), go none Tryz.prog 68 v102.1 v102.2 (retQ o102 fun v h => GetBR l a h.G v) (Td.s ((SC.reg false c102r5).seq .ret) :: fr) e ⟨G, [.reg 4 [.int .i64 0, .int .i64 0, .int .i64 0, .int .i64 0, .int .i64 0, .int .i64 0, .int .i64 0, .bool false, .int .i64 0, .slice none 0 0]], []⟩ := fun hx fr e => by
  rw [if_neg hx] at hg
  intros; refine gr 27 28 ?_; refine sJ c102r5.eq_1 ?_
  intros; refine rV ?_; simp only [push_cast, Nat.reduceBEq]
  exact ⟨_, by rw [hg], by rw [hg]; exact BE.zero⟩
 intros; refine gN ?_
 intros; refine gr 21 26 ?_; refine sJ c102r4.eq_1 ?_
 refine gd (fun k2 => ?_) (fun k2 => ?_)
 ·have k2 := of_decide_eq_true k2
  refine sI ?_
  intros; refine gc ?_; refine sI ?_
  exact hbad (by omega) _ _
 have k2 := of_decide_eq_false k2
 refine sI ?_
 intros; refine gc ?_; refine sI ?_
 refine gb (fun k3 => ?_) (fun k3 => ?_)
 ·have k3 := of_decide_eq_true k3
  exact hbad (by omega) _ _
 have k3 := of_decide_eq_false k3
 clear hbad
 rw [if_pos ⟨by omega, by omega⟩] at hg
 have w4 : IntKind.i64.wrap ((a : Int) + 4) = ((a + 4 : Nat) : Int) := by rw [w64_id] <;> omega
 intros; refine gN ?_
 intros; refine gr 28 32 ?_; refine sJ2 c102r6.eq_1 @w4 ?_
 refine slY_v (a + 4) l.length c hl0 rfl rfl rfl (by omega) fun B hB => ?_
 rw [List.take_length] at hB ⊢
 have hrl : (l.drop (a + 4)).length = l.length - (a + 4) := by simp
 generalize l.drop (a + 4) = rest at hB hg hrl ⊢
 refine sI ?_
 have hcv : IntKind.u64.wrap (rest.length : Int) = (rest.length : Int) := wrap64 (by omega)
 intros; refine gr 32 36 ?_; refine sJ2 c102r7.eq_1 @hcv ?_
 intros; refine gc ?_; refine sI ?_
 refine gb (fun k4 => ?_) (fun k4 => ?_)
 ·have k4 := of_decide_eq_true k4
  rw [if_neg (by omega)] at hg
  intros; refine gr 37 38 ?_; refine sJ c102r8.eq_1 ?_
  intros; refine rV ?_; simp only [push_cast, Nat.reduceBEq]
  exact ⟨_, by rw [hg], by rw [hg]; exact BE.zero⟩
 have k4 := of_decide_eq_false k4
 rw [if_pos (by omega)] at hg
 have hpre := SlV.pre n hB (by omega)
 have hop := Open_ok (rest.take n) _ G hpre (by simp; omega)
 have hol := openB_len (rest.take n)
 have hrn : (rest.take n).length ≤ 2044 := by simp; omega
 generalize openB (rest.take n) = o at hop hg hol
 intros; refine gN ?_
 intros; refine gr 38 45 ?_; refine sJ c102r9.eq_1 ?_
 refine ⟨by omega, ?_⟩
 refine (hop _ []).mono ?_
 rintro r h' ⟨G1, L', rfl, hg1, u, rfl, ys, hys, rfl⟩
 refine sI ?_
 intros; try refine go_seq ?_
 refine go_gx (gx_slv_at [] _ (by decide) hys) ?_
 rintro h' ⟨G2, rfl, hg2, hv2⟩
 intros; refine gr 45 46 ?_; refine sJ c102r10.eq_1 ?_
 intros; refine gc ?_; refine sI ?_
 refine gb (fun k5 => ?_) (fun k5 => ?_)
 ·have k5 := of_decide_eq_true k5
  rw [if_neg k5] at hg
  intros; refine gr 47 49 ?_; refine sJ c102r11.eq_1 ?_
  intros; refine rV ?_; simp only [push_cast, Nat.reduceBEq]
  exact ⟨_, by rw [hg], by rw [hg]; exact BE.zero⟩
 have k5 : o.2 = 0 := by simpa using k5
 rw [if_pos k5] at hg
 intros; refine gN ?_
 intros; refine gr 49 54 ?_; refine sJ c102r12.eq_1 ?_
 refine (parse_ok o.1 u G2 hv2 (by omega) _ []).mono ?_
 rintro r h' ⟨G3, rfl, hg3, x, cs, ok, rfl, hbe, hpo⟩
 have hck := BCheck_ok x cs G3 hbe
 have hbe0 := hbe
 obtain ⟨B', d', rfl, -⟩ := hbe
 unfold cellH at hck
 unfold cellH
 refine sI ?_
 have hbad : chkP 15 o.1 = none → ∀ (fr : List Td) (e : Env), go none Tryz.prog 68 v102.1 v102.2 (retQ o102 fun v h => GetBR l a h.G v) (Td.s ((SC.reg false c102r14).seq .ret) :: fr) e ⟨G3, [.reg 4 (cellH x (.slice B' x.recs.length d'))], []⟩ := fun hx fr e => by
  rw [hx] at hg
  dsimp only at hg
  unfold cellH
  intros; refine gr 61 62 ?_; refine sJ c102r14.eq_1 ?_
  intros; refine rV ?_; simp only [push_cast, Nat.reduceBEq]
  exact ⟨_, by rw [hg], by rw [hg]; exact BE.zero⟩
 unfold cellH at hbad
 intros; refine gr 54 60 ?_; refine sJ c102r13.eq_1 ?_
 refine gd (fun k6 => ?_) (fun k6 => ?_)
 ·have k6 : ok = false := by simpa using k6
  subst k6
  refine sI ?_
  intros; refine gc ?_; refine sI ?_
  exact hbad (chkP_none hpo) _ _
 have k6 : ok = true := by simpa using k6
 subst k6
 refine sI ?_
 refine (hck _ _).mono ?_; rintro _ _ ⟨rfl, rfl⟩; refine sI ?_
 intros; refine gc ?_; refine sI ?_
 refine gb (fun k7 => ?_) (fun k7 => ?_)
 ·have k7 := of_decide_eq_true k7
  exact hbad (chkP_bad hpo k7) _ _
 have k7 : errB x = 0 := by simpa using k7
 clear hbad
 rw [chkP_some hpo k7] at hg
 dsimp only at hg
 have hcn : IntKind.i64.wrap (n : Int) = (n : Int) := by rw [w64_id] <;> omega
 have hw5 : IntKind.i64.wrap (((a + 4 : Nat) : Int) + n) = ((a + 4 + n : Nat) : Int) := by rw [w64_id] <;> omega
 generalize a + 4 + n = nx at hg hw5
 generalize a + 4 = a4 at w4 hw5
 intros; refine gN ?_
 intros; refine gr 62 68 ?_; refine sJ4 c102r15.eq_1 @w4 @hcn @hw5 ?_
 intros; refine rV ?_; simp only [push_cast, Nat.reduceBEq]
 exact ⟨_, by rw [hg], by rw [hg]; exact hbe0⟩
set_option maxHeartbeats 2000000 in
theorem RBGet_ok (l : List UInt8) (a : Int) (v : Value) (G : Nat → Option Obj) (hl : SB G v l) (hb : l.length ≤ 1000000) : FnD Tryz.prog 91 #[v, .int .i64 a] G (GetBR l a) := by
 have hl0 := hl
 obtain ⟨A, c, rfl, hc, hm, hA⟩ := hl
 unfold maxLen at hm
 refine F91.fnD (by simp) (go_of ?_)
 unfold c91
 have hng := RNGet_ok l a 4 (by omega) _ G hl0
 have hnk := @getN_ok l a 4
 have hnl := @getN_lt l a
 intros; refine gr 0 0 ?_; refine sJ c91r0.eq_1 ?_
 intros; refine gr 13 19 ?_; refine sJ c91r1.eq_1 ?_
 refine (hng _ _).mono ?_; rintro _ _ ⟨rfl, rfl⟩; refine sI ?_
 intros; refine gr 19 20 ?_; refine sJ c91r2.eq_1 ?_
 intros; refine gc ?_; refine sI ?_
 refine gb (fun k1 => ?_) (fun k1 => ?_)
 ·have k1 := of_decide_eq_true k1
  intros; refine gr 21 23 ?_; refine sJ c91r3.eq_1 ?_
  intros; refine rV ?_; simp only [push_cast, Nat.reduceBEq]
  have hg : getB l a = (noneB, 0, (getN l a 4).2) := by rw [getB, if_neg k1]
  exact ⟨_, by rw [hg], by rw [hg]; exact BE.zero⟩
 have k1 : (getN l a 4).2 = 0 := by simpa using k1
 obtain ⟨ha, hal⟩ := (hnk k1).resolve_right (by decide)
 obtain ⟨a, rfl⟩ : ∃ n : Nat, a = n := ⟨a.toNat, by omega⟩
 rw [Int.toNat_natCast] at hal
 have hg : getB l (a : Int) = if 5 ≤ (getN l a 4).1 ∧ (getN l a 4).1 ≤ 2044 then
   if (getN l a 4).1 ≤ (l.drop (a + 4)).length then
    if (openB ((l.drop (a + 4)).take (getN l a 4).1)).2 = 0 then
     match chkP 15 (openB ((l.drop (a + 4)).take (getN l a 4).1)).1 with
     | none => (noneB, (0 : Int), (11 : Int))
     | some x => (x, ((a + 4 + (getN l a 4).1 : Nat) : Int), (0 : Int))
    else (noneB, (0 : Int), (openB ((l.drop (a + 4)).take (getN l a 4).1)).2)
   else (noneB, (0 : Int), (10 : Int))
  else (noneB, (0 : Int), (11 : Int)) := by rw [getB, if_pos k1]; rfl
 generalize (getN l a 4).1 = n at hg hnl
 have hbad : ¬ (5 ≤ n ∧ n ≤ 2044) → ∀ (fr : List Td) (e : Env), go none Tryz.prog 68 v91.1 v91.2 (retQ o91 fun v h => GetBR l a h.G v) (Td.s ((SC.reg false c91r5).seq .ret) :: fr) e ⟨G, [.reg 4 [.int .i64 0, .int .i64 0, .int .i64 0, .int .i64 0, .int .i64 0, .int .i64 0, .int .i64 0, .bool false, .int .i64 0, .slice none 0 0]], []⟩ := fun hx fr e => by
  rw [if_neg hx] at hg
  intros; refine gr 29 30 ?_; refine sJ c91r5.eq_1 ?_
  intros; refine rV ?_; simp only [push_cast, Nat.reduceBEq]
  exact ⟨_, by rw [hg], by rw [hg]; exact BE.zero⟩
 intros; refine gN ?_
 intros; refine gr 23 28 ?_; refine sJ c91r4.eq_1 ?_
 refine gd (fun k2 => ?_) (fun k2 => ?_)
 ·have k2 := of_decide_eq_true k2
  refine sI ?_
  intros; refine gc ?_; refine sI ?_
  exact hbad (by omega) _ _
 have k2 := of_decide_eq_false k2
 refine sI ?_
 intros; refine gc ?_; refine sI ?_
 refine gb (fun k3 => ?_) (fun k3 => ?_)
 ·have k3 := of_decide_eq_true k3
  exact hbad (by omega) _ _
 have k3 := of_decide_eq_false k3
 clear hbad
 rw [if_pos ⟨by omega, by omega⟩] at hg
 have w4 : IntKind.i64.wrap ((a : Int) + 4) = ((a + 4 : Nat) : Int) := by rw [w64_id] <;> omega
 have hcn : IntKind.i64.wrap (n : Int) = (n : Int) := by rw [w64_id] <;> omega
 have hw5 : IntKind.i64.wrap (((a + 4 : Nat) : Int) + n) = ((a + 4 + n : Nat) : Int) := by rw [w64_id] <;> omega
 obtain ⟨a4, ha4⟩ : ∃ a4, a4 = a + 4 := ⟨_, rfl⟩
 rw [← ha4] at w4 hw5 hg hal
 obtain ⟨nx, hnx⟩ : ∃ nx, nx = a4 + n := ⟨_, rfl⟩
 rw [← hnx] at hw5 hg
 intros; refine gN ?_
 intros; refine gr 30 35 ?_; refine sJ4 c91r6.eq_1 @w4 @hcn @hw5 ?_
 intros; refine gr 35 38 ?_; refine sJ c91r7.eq_1 ?_
 have hrl : (l.drop a4).length = l.length - a4 := by simp
 intros; refine gc ?_; refine sI ?_
 refine gb (fun k4 => ?_) (fun k4 => ?_)
 ·have k4 := of_decide_eq_true k4
  rw [if_neg (by omega)] at hg
  intros; refine gr 39 40 ?_; refine sJ c91r8.eq_1 ?_
  intros; refine rV ?_; simp only [push_cast, Nat.reduceBEq]
  exact ⟨_, by rw [hg], by rw [hg]; exact BE.zero⟩
 have k4 := of_decide_eq_false k4
 rw [if_pos (by omega)] at hg
 have hsub : (l.take nx).drop a4 = (l.drop a4).take n := by rw [List.drop_take, hnx, Nat.add_sub_cancel_left]
 intros; refine gN ?_
 intros; refine gr 40 49 ?_; refine sJ2 c91r9.eq_1 @w4 ?_
 refine slY_v a4 nx c hl0 rfl rfl rfl (by omega) fun B hB => ?_
 rw [hsub] at hB ⊢
 have hrn : ((l.drop a4).take n).length ≤ 2044 := by simp; omega
 have hop := ROpen_ok ((l.drop a4).take n) _ G hB (by omega)
 have hol := openB_len ((l.drop a4).take n)
 generalize openB ((l.drop a4).take n) = o at hop hg hol
 refine sI ?_
 refine (hop _ []).mono ?_
 rintro r h' ⟨G1, L', rfl, hg1, u, rfl, ys, hys, rfl⟩
 refine sI ?_
 intros; try refine go_seq ?_
 refine go_gx (gx_slv_at [] _ (by decide) hys) ?_
 rintro h' ⟨G2, rfl, hg2, hv2⟩
 intros; refine gr 49 50 ?_; refine sJ c91r10.eq_1 ?_
 intros; refine gc ?_; refine sI ?_
 refine gb (fun k5 => ?_) (fun k5 => ?_)
 ·have k5 := of_decide_eq_true k5
  rw [if_neg k5] at hg
  intros; refine gr 51 53 ?_; refine sJ c91r11.eq_1 ?_
  intros; refine rV ?_; simp only [push_cast, Nat.reduceBEq]
  exact ⟨_, by rw [hg], by rw [hg]; exact BE.zero⟩
 have k5 : o.2 = 0 := by simpa using k5
 rw [if_pos k5, ← chkP_16] at hg
 intros; refine gN ?_
 intros; refine gr 53 58 ?_; refine sJ c91r12.eq_1 ?_
 refine (body_ok o.1 u G2 hv2 (by omega) _ []).mono ?_
 rintro r h' ⟨G3, rfl, hg3, x, cs, ok, rfl, hbe, hpo⟩
 have hck := RBCheck_ok x cs G3 hbe
 have hbe0 := hbe
 obtain ⟨B', d', rfl, -⟩ := hbe
 unfold cellH at hck
 unfold cellH
 refine sI ?_
 have hbad : chkP 16 o.1 = none → ∀ (fr : List Td) (e : Env), go none Tryz.prog 68 v91.1 v91.2 (retQ o91 fun v h => GetBR l a h.G v) (Td.s ((SC.reg false c91r14).seq .ret) :: fr) e ⟨G3, [.reg 11 (cellH x (.slice B' x.recs.length d')), .reg 4 [.int .i64 0, .int .i64 0, .int .i64 0, .int .i64 0, .int .i64 0, .int .i64 0, .int .i64 0, .bool false, .int .i64 0, .slice none 0 0]], []⟩ := fun hx fr e => by
  rw [hx] at hg
  dsimp only at hg
  unfold cellH
  intros; refine gr 65 66 ?_; refine sJ c91r14.eq_1 ?_
  intros; refine rV ?_; simp only [push_cast, Nat.reduceBEq]
  exact ⟨_, by rw [hg], by rw [hg]; exact BE.zero⟩
 unfold cellH at hbad
 intros; refine gr 58 64 ?_; refine sJ c91r13.eq_1 ?_
 refine gd (fun k6 => ?_) (fun k6 => ?_)
 ·have k6 : ok = false := by simpa using k6
  subst k6
  refine sI ?_
  intros; refine gc ?_; refine sI ?_
  exact hbad (chkP_none hpo) _ _
 have k6 : ok = true := by simpa using k6
 subst k6
 refine sI ?_
 refine (hck _ _).mono ?_; rintro _ _ ⟨rfl, rfl⟩; refine sI ?_
 intros; refine gc ?_; refine sI ?_
 refine gb (fun k7 => ?_) (fun k7 => ?_)
 ·have k7 := of_decide_eq_true k7
  exact hbad (chkP_bad hpo k7) _ _
 have k7 : errB x = 0 := by simpa using k7
 clear hbad
 rw [chkP_some hpo k7] at hg
 dsimp only at hg
 intros; refine gN ?_
 intros; refine gr 66 68 ?_; refine sJ c91r15.eq_1 ?_
 intros; refine rV ?_; simp only [push_cast, Nat.reduceBEq]
 exact ⟨_, by rw [hg], by rw [hg]; exact hbe0⟩
theorem u8_of {y : Nat} (h : y < 256) : (UInt8.ofNat y).toNat = y := by simp; omega
theorem u8_to (x : UInt8) : UInt8.ofNat x.toNat = x := by simp
theorem gvL_vnat : ∀ (f i z y : Nat) (q : List UInt8), i + f = 9 → y < 2 * 128 ^ f → (0 < i → 0 < y) → gvL i z (vnat f y ++ q) = (0, z + 128 ^ i * y, i + (vnat f y).length)
 | 0, i, z, y, q, hi, hy, h0 => by
  have hx : (UInt8.ofNat y).toNat = y := u8_of (by simp at hy; omega)
  simp at hy
  simp only [vnat, List.cons_append, List.nil_append]
  rw [gvL_end (by rw [hx]; omega) (by rw [hx]; omega), hx, Nat.mod_eq_of_lt (by omega)]
  rfl
 | f + 1, i, z, y, q, hi, hy, h0 => by
  unfold vnat
  split
  ·rename_i hlt
   have hx : (UInt8.ofNat y).toNat = y := u8_of (by omega)
   simp only [List.cons_append, List.nil_append]
   rw [gvL_end (by rw [hx]; omega) (by rw [hx]; omega), hx, Nat.mod_eq_of_lt (by omega)]
   rfl
  ·rename_i hge
   have hx : (UInt8.ofNat (128 + y % 128)).toNat = 128 + y % 128 := u8_of (by omega)
   simp only [List.cons_append]
   rw [gvL_more (by rw [hx]; omega) (by rw [hx]; omega), hx]
   rw [Nat.pow_succ] at hy
   rw [gvL_vnat f (i + 1) _ (y / 128) q (by omega) (by omega) (by omega)]
   have e1 : (128 + y % 128) % 128 = y % 128 := by omega
   have e2 : 128 ^ (i + 1) * (y / 128) = 128 ^ i * (128 * (y / 128)) := by rw [Nat.pow_succ, Nat.mul_assoc]
   rw [e1, e2, Nat.add_assoc, ← Nat.mul_add, show y % 128 + 128 * (y / 128) = y by omega]
   simp
   omega
theorem gvL_back : ∀ (m : List UInt8) (i z : Nat), i ≤ 9 → (gvL i z m).1 = 0 → ∃ y rest, m = vnat (9 - i) y ++ rest ∧ (gvL i z m).2.1 = z + 128 ^ i * y ∧ (gvL i z m).2.2 = i + (vnat (9 - i) y).length ∧ (0 < i → 0 < y) ∧ y < 2 * 128 ^ (9 - i)
 | [], i, z, _, h => by simp [gvL] at h
 | x :: xs, i, z, hi, h => by
  have hxl := x.toNat_lt
  by_cases h1 : (i = 9 ∧ 1 < x.toNat) ∨ (0 < i ∧ x.toNat = 0)
  ·rw [gvL_bad h1] at h; cases h
  ·by_cases h2 : x.toNat < 128
   ·rw [gvL_end h1 h2]
    refine ⟨x.toNat, xs, ?_, by rw [Nat.mod_eq_of_lt h2], ?_, by omega, ?_⟩
    ·rw [vnat_lt h2, u8_to]
     rfl
    ·rw [vnat_lt h2]
     rfl
    ·by_cases h9 : i = 9
     ·subst h9
      simp
      omega
     ·have : 128 ^ 1 ≤ 128 ^ (9 - i) := Nat.pow_le_pow_right (by decide) (by omega)
      omega
   ·have hi8 : i ≤ 8 := by omega
    rw [gvL_more h1 h2] at h ⊢
    obtain ⟨y, rest, e1, e2, e3, e4, e5⟩ := gvL_back xs (i + 1) _ (by omega) h
    have hy := e4 (by omega)
    refine ⟨(x.toNat - 128) + 128 * y, rest, ?_, ?_, ?_, by omega, ?_⟩
    ·rw [show 9 - i = 9 - (i + 1) + 1 by omega, vnat, if_neg (by omega), show 128 + (x.toNat - 128 + 128 * y) % 128 = x.toNat by omega, u8_to, show (x.toNat - 128 + 128 * y) / 128 = y by omega, List.cons_append, ← e1]
    ·rw [e2, Nat.pow_succ, Nat.add_assoc]
     congr 1
     rw [show x.toNat % 128 = x.toNat - 128 by omega, Nat.mul_assoc, ← Nat.mul_add]
    ·rw [e3, show 9 - i = 9 - (i + 1) + 1 by omega, vnat, if_neg (by omega), show (x.toNat - 128 + 128 * y) / 128 = y by omega, List.length_cons]
     omega
    ·rw [show 9 - i = 9 - (i + 1) + 1 by omega, Nat.pow_succ]
     omega
theorem zag_zig {n : Int} (h : I64 n) : zag (zig n) = n := by
 unfold zag zig I64 at *
 split <;> split <;> omega
theorem zig_zag (z : Nat) : zig (zag z) = z := by
 unfold zag zig
 split <;> split <;> omega
theorem getV_if {l : List UInt8} {a : Nat} : getV l (a : Int) = if (gvL 0 0 (l.drop a)).1 = 0 then (zag (gvL 0 0 (l.drop a)).2.1, (a : Int) + (gvL 0 0 (l.drop a)).2.2, 0) else (0, 0, (gvL 0 0 (l.drop a)).1) := by
 rw [getV, if_neg (by omega)]
 rfl
theorem getV_at {l : List UInt8} {a : Nat} {n : Int} {q : List UInt8} (hn : I64 n) (h : l.drop a = pvB n ++ q) : getV l (a : Int) = (n, ((a + (pvB n).length : Nat) : Int), 0) := by
 have hz := zig_lt hn
 rw [getV_if, h, pvB, gvL_vnat 9 0 0 (zig n) q rfl (by omega) (by omega)]
 simp only [if_true, Nat.zero_add, Nat.pow_zero, Nat.one_mul, zag_zig hn]
 rfl
theorem getV_back {l : List UInt8} {a : Nat} (h : (getV l (a : Int)).2.2 = 0) : ∃ q, l.drop a = pvB (getV l (a : Int)).1 ++ q ∧ (getV l (a : Int)).2.1 = ((a + (pvB (getV l (a : Int)).1).length : Nat) : Int) ∧ I64 (getV l (a : Int)).1 := by
 obtain ⟨_, _, _, _, _, hi⟩ := getV_ok h
 rw [getV_if] at h hi ⊢
 split at h
 ·rename_i h0
  rw [if_pos h0] at hi ⊢
  obtain ⟨y, rest, e1, e2, e3, _, e5⟩ := gvL_back _ 0 0 (by omega) h0
  simp only [Nat.zero_add, Nat.pow_zero, Nat.one_mul, Nat.sub_zero] at e1 e2 e3
  dsimp only at hi ⊢
  rw [e2] at hi ⊢
  refine ⟨rest, ?_, ?_, hi⟩
  ·rw [pvB, zig_zag]; exact e1
  ·rw [pvB, zig_zag, e3]; rfl
 ·rename_i h0
  exact absurd h h0
theorem pvB_pos (n : Int) : 0 < (pvB n).length := (vnat_len 9 _).2
theorem getT_at {l : List UInt8} {a : Nat} {s : ByteArray} {q : List UInt8} (hs : s.size ≤ 64) (h : l.drop a = ptB s ++ q) : getT l (a : Int) 64 = (s, ((a + (ptB s).length : Nat) : Int), 0) := by
 have hv := getV_at (l := l) (a := a) (n := s.size) (q := s.data.toList ++ q) (by unfold I64; omega) (by rw [h, ptB, List.append_assoc])
 have hd : l.drop (a + (pvB s.size).length) = s.data.toList ++ q := by rw [← List.drop_drop, h, ptB, List.append_assoc, List.drop_left]
 have hl : s.data.toList.length = s.size := rfl
 have hlen : a + (pvB s.size).length + s.size ≤ l.length := by
  have := congrArg List.length hd
  simp at this
  have h2 := pvB_pos s.size
  have h3 := congrArg List.length h
  simp [ptB] at h3
  omega
 rw [getT, hv]
 dsimp only
 rw [if_pos rfl, if_neg (by omega), if_neg (by omega), if_neg (by omega)]
 simp only [Int.toNat_natCast]
 have e1 : (l.take (a + (pvB s.size).length + s.size)).drop (a + (pvB s.size).length) = s.data.toList := by
  rw [List.drop_take, Nat.add_sub_cancel_left, hd, List.take_left' hl]
 rw [e1]
 refine Prod.ext rfl (Prod.ext ?_ rfl)
 simp only [ptB, List.length_append, hl]
 omega
theorem getT_back {l : List UInt8} {a : Nat} (h : (getT l (a : Int) 64).2.2 = 0) : ∃ q, l.drop a = ptB (getT l (a : Int) 64).1 ++ q ∧ (getT l (a : Int) 64).2.1 = ((a + (ptB (getT l (a : Int) 64).1).length : Nat) : Int) ∧ (getT l (a : Int) 64).1.size ≤ 64 := by
 have hb := @getV_back l a
 have hk := @getV_ok l a
 unfold getT at h ⊢
 split at h
 ·rename_i h0
  obtain ⟨q, e1, e2, e3⟩ := hb h0
  obtain ⟨k, _, e4, _, e5, _⟩ := hk h0
  rw [Int.toNat_natCast] at e4 e5
  rw [if_pos h0]
  split at h
  ·cases h
  ·rename_i h1
   split at h
   ·cases h
   ·rename_i h2
    split at h
    ·cases h
    ·rename_i h3
     rw [if_neg h1, if_neg h2, if_neg h3]
     generalize getV l (a : Int) = v at *
     obtain ⟨n, nx, er⟩ := v
     dsimp only at *
     obtain ⟨n, rfl⟩ : ∃ m : Nat, n = m := ⟨n.toNat, by omega⟩
     have hk2 : k = (pvB n).length := by omega
     subst hk2
     subst e4
     simp only [Int.toNat_natCast]
     have hd : l.drop (a + (pvB n).length) = q := by rw [← List.drop_drop, e1, List.drop_left]
     have hql : n ≤ q.length := by rw [← hd]; simp; omega
     have e6 : (l.take (a + (pvB n).length + n)).drop (a + (pvB n).length) = q.take n := by rw [List.drop_take, Nat.add_sub_cancel_left, hd]
     rw [e6]
     have hsz : (ByteArray.mk (q.take n).toArray).size = n := by
      show (q.take n).toArray.size = n
      simp
      omega
     refine ⟨q.drop n, ?_, ?_, by rw [hsz]; omega⟩
     ·rw [ptB, hsz, List.append_assoc, e1]
      simp
     ·rw [ptB, List.length_append, hsz]
      simp
      omega
 ·rename_i h0
  exact absurd h h0
theorem at_0 {l : List UInt8} {a : Nat} {x : UInt8} {q : List UInt8} (h : l.drop a = x :: q) : l[a]? = some x := by
 have := List.getElem?_drop (xs := l) (i := a) (j := 0)
 rw [Nat.add_zero, h] at this
 exact this.symm
theorem drop_1 {l : List UInt8} {a : Nat} {x : UInt8} (h : l[a]? = some x) : l.drop a = x :: l.drop (a + 1) := by
 have h2 := List.getElem?_eq_some_iff.1 h
 rw [List.drop_eq_getElem_cons h2.1, h2.2]
theorem drop_more {l p q : List UInt8} {a : Nat} (h : l.drop a = p ++ q) : l.drop (a + p.length) = q := by rw [← List.drop_drop, h, List.drop_left]
theorem inO_iff {n : Int} : inO n = true ↔ 0 ≤ n ∧ n ≤ 1099511627776 := by simp [inO]
theorem getR_at {l : List UInt8} {a : Nat} {r : Rec} {base stamp : Int} {q : List UInt8} (hb : inO base = true) (hs : inO stamp = true) (hc : chkR r = 0) (h : l.drop a = prB r base stamp ++ q) : getR l (a : Int) base stamp = (r, ((a + (prB r base stamp).length : Nat) : Int), 0) := by
 obtain ⟨⟨c1, c2⟩, c3, c4⟩ := chk_small hc
 have hb' := inO_iff.1 hb
 have hs' := inO_iff.1 hs
 have c1' := inO_iff.1 c1
 have c2' := inO_iff.1 c2
 have h1 : l.drop a = pvB (r.off - base) ++ (pvB (r.stamp - stamp) ++ ((if r.dead = true then 1 else 0) :: (ptB r.key ++ (ptB r.val ++ q)))) := by rw [h, prB]; simp
 have h2 := drop_more h1
 have h3 := drop_more h2
 have h4 : l.drop (a + (pvB (r.off - base)).length + (pvB (r.stamp - stamp)).length + 1) = ptB r.key ++ (ptB r.val ++ q) := by
  have := drop_more (p := [if r.dead = true then 1 else 0]) h3
  exact this
 have h5 := drop_more h4
 have v1 := getV_at (show I64 (r.off - base) by unfold I64; omega) h1
 have v2 := getV_at (show I64 (r.stamp - stamp) by unfold I64; omega) h2
 have v4 := getT_at c3 h4
 have v5 := getT_at c4 h5
 have v3 : getF l (a + (pvB (r.off - base)).length + (pvB (r.stamp - stamp)).length) = (r.dead, ((a + (pvB (r.off - base)).length + (pvB (r.stamp - stamp)).length + 1 : Nat) : Int), 0) := by
  rw [getF, at_0 h3]
  cases r.dead <;> simp
 have e1 : g1 l a = (r.off - base, ((a + (pvB (r.off - base)).length : Nat) : Int), 0) := by rw [g1_eq, v1]
 have e2 : g2 l a = (r.stamp - stamp, ((a + (pvB (r.off - base)).length + (pvB (r.stamp - stamp)).length : Nat) : Int), 0) := by rw [g2, e1, nx_0 rfl, v2]
 have e3 : g3 l a = (r.dead, ((a + (pvB (r.off - base)).length + (pvB (r.stamp - stamp)).length + 1 : Nat) : Int), 0) := by rw [g3, e2, nx_0 rfl, Int.toNat_natCast, v3]
 have e4 : g4 l a = (r.key, ((a + (pvB (r.off - base)).length + (pvB (r.stamp - stamp)).length + 1 + (ptB r.key).length : Nat) : Int), 0) := by rw [g4, e3, nx_0 rfl, v4]
 have e5 : g5 l a = (r.val, ((a + (pvB (r.off - base)).length + (pvB (r.stamp - stamp)).length + 1 + (ptB r.key).length + (ptB r.val).length : Nat) : Int), 0) := by rw [g5, e4, nx_0 rfl, v5]
 have er : recR l a base stamp = r := by
  rw [recR, e1, e2, e3, e4, e5]
  have b1 : bes base (r.off - base) = r.off := by rw [bes, if_neg (by omega)]; omega
  have b2 : bes stamp (r.stamp - stamp) = r.stamp := by rw [bes, if_neg (by omega)]; omega
  dsimp only
  rw [b1, b2]
 have hal : a ≤ l.length := by
  have h6 := congrArg List.length h1
  have := pvB_pos (r.off - base)
  simp at h6
  omega
 rw [getR_if ⟨hb, hs, by omega, by omega⟩, e5]
 dsimp only
 rw [if_pos rfl, er, if_pos hc]
 refine Prod.ext rfl (Prod.ext ?_ rfl)
 dsimp only
 simp only [prB, List.length_append, List.length_cons, List.length_nil]
 omega
theorem getR_back {l : List UInt8} {a : Nat} {base stamp : Int} (h : (getR l (a : Int) base stamp).2.2 = 0) : ∃ q, l.drop a = prB (getR l (a : Int) base stamp).1 base stamp ++ q ∧ (getR l (a : Int) base stamp).2.1 = ((a + (prB (getR l (a : Int) base stamp).1 base stamp).length : Nat) : Int) ∧ chkR (getR l (a : Int) base stamp).1 = 0 := by
 by_cases hin : inO base = true ∧ inO stamp = true ∧ 0 ≤ (a : Int) ∧ (a : Int) ≤ l.length
 rotate_left
 ·rw [getR, if_neg hin] at h; cases h
 have k5 : (g5 l a).2.2 = 0 := by
  rcases Int.lt_or_le 0 0 with hh | _
  ·omega
  ·by_cases hh : (g5 l a).2.2 = 0
   ·exact hh
   ·rw [getR_5 hin hh] at h; exact absurd h hh
 have k4 : (g4 l a).2.2 = 0 := by
  by_cases hh : (g4 l a).2.2 = 0
  ·exact hh
  ·rw [getR_4 hin hh] at h; exact absurd h hh
 have k3 : (g3 l a).2.2 = 0 := by
  by_cases hh : (g3 l a).2.2 = 0
  ·exact hh
  ·rw [getR_3 hin hh] at h; exact absurd h hh
 have k2 : (g2 l a).2.2 = 0 := by
  by_cases hh : (g2 l a).2.2 = 0
  ·exact hh
  ·rw [getR_2 hin hh] at h; exact absurd h hh
 have k1 : (g1 l a).2.2 = 0 := by
  by_cases hh : (g1 l a).2.2 = 0
  ·exact hh
  ·rw [getR_1 hin hh] at h; exact absurd h hh
 rw [getR_if hin, if_pos k5] at h ⊢
 split at h
 rotate_left
 ·cases h
 rename_i hc
 rw [if_pos hc]
 -- field by field
 have e1 := g1_eq l a
 rw [e1] at k1
 obtain ⟨q1, a1, a2, a3⟩ := getV_back k1
 have e2 : g2 l a = getV l (getV l a).2.1 := by rw [g2, e1, nx_0 k1]
 generalize hv1 : getV l (a : Int) = v1 at *
 obtain ⟨d1, n1, x1⟩ := v1
 dsimp only at *
 subst a2
 rw [e2] at k2
 obtain ⟨q2, b1, b2, b3⟩ := getV_back k2
 have e3 : g3 l a = getF l (getV l ((a + (pvB d1).length : Nat) : Int)).2.1.toNat := by rw [g3, e2, nx_0 k2]
 generalize hv2 : getV l ((a + (pvB d1).length : Nat) : Int) = v2 at *
 obtain ⟨d2, n2, x2⟩ := v2
 dsimp only at *
 subst b2
 rw [Int.toNat_natCast] at e3
 have hz1 := drop_more a1
 have hz2 := drop_more b1
 -- the byte
 generalize hj : a + (pvB d1).length + (pvB d2).length = j at *
 obtain ⟨x, hx⟩ : ∃ x, l[j]? = some x := by
  cases hx : l[j]? with
  | none => rw [e3, getF, hx] at k3; cases k3
  | some x => exact ⟨x, rfl⟩
 have hxl : ¬ 1 < x.toNat := fun hh => by
  rw [e3, getF, hx] at k3
  dsimp only at k3
  rw [if_pos hh] at k3
  cases k3
 have e3' : g3 l a = (decide (x.toNat = 1), ((j + 1 : Nat) : Int), 0) := by
  rw [e3, getF, hx]
  dsimp only
  rw [if_neg hxl]
  rfl
 have hd3 := drop_1 hx
 -- the texts
 have e4 : g4 l a = getT l ((j + 1 : Nat) : Int) 64 := by rw [g4, e3', nx_0 rfl]
 rw [e4] at k4
 obtain ⟨q4, c1, c2, c3⟩ := getT_back k4
 have e5 : g5 l a = getT l (getT l ((j + 1 : Nat) : Int) 64).2.1 64 := by rw [g5, e4, nx_0 k4]
 generalize hv4 : getT l ((j + 1 : Nat) : Int) 64 = v4 at *
 obtain ⟨s4, n4, x4⟩ := v4
 dsimp only at *
 subst c2
 rw [e5] at k5
 obtain ⟨q5, f1, f2, f3⟩ := getT_back k5
 generalize hv5 : getT l ((j + 1 + (ptB s4).length : Nat) : Int) 64 = v5 at *
 obtain ⟨s5, n5, x5⟩ := v5
 dsimp only at *
 subst f2
 have hrr : recR l a base stamp = ⟨bes base d1, s4, s5, decide (x.toNat = 1), bes stamp d2⟩ := by rw [recR, e1, e2, e3', e4, e5]
 rw [hrr] at hc ⊢
 obtain ⟨⟨o1, o2⟩, -, -⟩ := chk_small hc
 dsimp only at o1 o2
 have hb1 : bes base d1 - base = d1 := by
  unfold bes at o1 ⊢
  split
  ·rename_i hh; rw [if_pos hh] at o1; simp [inO] at o1
  ·omega
 have hb2 : bes stamp d2 - stamp = d2 := by
  unfold bes at o2 ⊢
  split
  ·rename_i hh; rw [if_pos hh] at o2; simp [inO] at o2
  ·omega
 have hbyte : (if decide (x.toNat = 1) = true then (1 : UInt8) else 0) = x := by
  apply UInt8.toNat_inj.1
  by_cases hh : x.toNat = 1
  ·simp [hh]
  ·simp [hh]; omega
 have hpr : prB ⟨bes base d1, s4, s5, decide (x.toNat = 1), bes stamp d2⟩ base stamp = pvB d1 ++ pvB d2 ++ [x] ++ ptB s4 ++ ptB s5 := by
  rw [prB]
  dsimp only
  rw [hb1, hb2, hbyte]
 have hz4 := drop_more c1
 refine ⟨q5, ?_, ?_, hc⟩
 ·rw [hpr, a1, ← hz1, b1, ← hz2, hd3, c1, ← hz4, f1]
  simp
 ·rw [e5, hpr]
  dsimp only
  simp only [List.length_append, List.length_cons, List.length_nil]
  omega
theorem take_one {α : Type} {l : List α} {k : Nat} (h : k < l.length) : l = l.take k ++ (l[k] :: l.drop (k + 1)) := by
 rw [← List.drop_eq_getElem_cons h, List.take_append_drop]
theorem headB_app (a b : List Int) : headB (a ++ b) = headB a ++ headB b := by simp [headB]
theorem headB_cons (n : Int) (b : List Int) : headB (n :: b) = pvB n ++ headB b := by simp [headB]
theorem recsB_app (base stamp : Int) (a b : List Rec) : recsB base stamp (a ++ b) = recsB base stamp a ++ recsB base stamp b := by simp [recsB]
theorem recsB_cons (base stamp : Int) (r : Rec) (b : List Rec) : recsB base stamp (r :: b) = prB r base stamp ++ recsB base stamp b := by simp [recsB]
theorem nums_at {l q : List UInt8} {ns : List Int} (hi : ∀ n ∈ ns, I64 n) (h : l = headB ns ++ q) : ∀ k, k ≤ ns.length → nums l k = some (ns.take k, (headB (ns.take k)).length)
 | 0, _ => by simp [nums, headB]
 | k + 1, hk => by
  have hd : l.drop (headB (ns.take k)).length = pvB ns[k] ++ (headB (ns.drop (k + 1)) ++ q) := by
   have e := take_one (l := ns) (k := k) (by omega)
   have : l = headB (ns.take k) ++ (pvB ns[k] ++ (headB (ns.drop (k + 1)) ++ q)) := by
    rw [h]
    conv => lhs; rw [e]
    rw [headB_app, headB_cons]
    simp
   rw [this, List.drop_left]
  have hv := getV_at (hi _ (List.getElem_mem (by omega))) hd
  rw [nums, nums_at hi h k (by omega)]
  simp only [Option.bind_some]
  rw [hv]
  dsimp only
  rw [if_pos rfl, Int.toNat_natCast, List.take_succ_eq_append_getElem (by omega), headB_app, headB_cons]
  simp [headB]
theorem nums_back {l : List UInt8} : ∀ (k : Nat) (ns : List Int) (p : Nat), nums l k = some (ns, p) → ns.length = k ∧ (∀ n ∈ ns, I64 n) ∧ ∃ q, l = headB ns ++ q ∧ p = (headB ns).length
 | 0, ns, p, h => by
  simp only [nums, Option.some.injEq, Prod.mk.injEq] at h
  obtain ⟨rfl, rfl⟩ := h
  exact ⟨rfl, by simp, l, by simp [headB], by simp [headB]⟩
 | k + 1, ns, p, h => by
  rw [nums] at h
  cases hk : nums l k with
  | none => rw [hk] at h; cases h
  | some r =>
   obtain ⟨ns', p'⟩ := r
   rw [hk] at h
   simp only [Option.bind_some] at h
   split at h
   ·rename_i h0
    obtain ⟨h1, h2, q, h3, h4⟩ := nums_back k ns' p' hk
    obtain ⟨q2, e1, e2, e3⟩ := getV_back h0
    simp only [Option.some.injEq, Prod.mk.injEq] at h
    obtain ⟨rfl, rfl⟩ := h
    rw [e2]
    generalize (getV l (p' : Int)).1 = n at e1 e3 ⊢
    refine ⟨by simp [h1], ?_, q2, ?_, ?_⟩
    ·intro x hx
     rcases List.mem_append.1 hx with hx | hx
     ·exact h2 x hx
     ·simp at hx; rw [hx]; exact e3
    ·have : q = pvB n ++ q2 := by rw [← e1, h3, h4, List.drop_left]
     rw [h3, this, headB_app, headB_cons]
     simp [headB]
    ·rw [Int.toNat_natCast, headB_app, headB_cons, h4]
     simp [headB]
   ·cases h
theorem recsG_at {l q : List UInt8} {base stamp : Int} {p : Nat} {rs : List Rec} (hb : inO base = true) (hs : inO stamp = true) (hc : ∀ r ∈ rs, chkR r = 0) (h : l.drop p = recsB base stamp rs ++ q) : ∀ k, k ≤ rs.length → recsG l base stamp p k = some (rs.take k, p + (recsB base stamp (rs.take k)).length)
 | 0, _ => by simp [recsG, recsB]
 | k + 1, hk => by
  have hd : l.drop (p + (recsB base stamp (rs.take k)).length) = prB rs[k] base stamp ++ (recsB base stamp (rs.drop (k + 1)) ++ q) := by
   have e := take_one (l := rs) (k := k) (by omega)
   refine drop_more (p := recsB base stamp (rs.take k)) ?_
   rw [h]
   conv => lhs; rw [e]
   rw [recsB_app, recsB_cons]
   simp
  have hv := getR_at hb hs (hc _ (List.getElem_mem (by omega))) hd
  rw [recsG, recsG_at hb hs hc h k (by omega)]
  simp only [Option.bind_some]
  rw [hv]
  dsimp only
  rw [if_pos rfl, Int.toNat_natCast, List.take_succ_eq_append_getElem (by omega), recsB_app, recsB_cons]
  simp [recsB]
  omega
theorem recsG_back {l : List UInt8} {base stamp : Int} {p : Nat} : ∀ (k : Nat) (rs : List Rec) (p' : Nat), recsG l base stamp p k = some (rs, p') → rs.length = k ∧ (∀ r ∈ rs, chkR r = 0) ∧ ∃ q, l.drop p = recsB base stamp rs ++ q ∧ p' = p + (recsB base stamp rs).length
 | 0, rs, p', h => by
  simp only [recsG, Option.some.injEq, Prod.mk.injEq] at h
  obtain ⟨rfl, rfl⟩ := h
  exact ⟨rfl, by simp, l.drop p, by simp [recsB], by simp [recsB]⟩
 | k + 1, rs, p', h => by
  rw [recsG] at h
  cases hk : recsG l base stamp p k with
  | none => rw [hk] at h; cases h
  | some r =>
   obtain ⟨rs', p1⟩ := r
   rw [hk] at h
   simp only [Option.bind_some] at h
   split at h
   ·rename_i h0
    obtain ⟨h1, h2, q, h3, h4⟩ := recsG_back k rs' p1 hk
    obtain ⟨q2, e1, e2, e3⟩ := getR_back h0
    simp only [Option.some.injEq, Prod.mk.injEq] at h
    obtain ⟨rfl, rfl⟩ := h
    rw [e2]
    generalize (getR l (p1 : Int) base stamp).1 = r at e1 e3 ⊢
    refine ⟨by simp [h1], ?_, q2, ?_, ?_⟩
    ·intro x hx
     rcases List.mem_append.1 hx with hx | hx
     ·exact h2 x hx
     ·simp at hx; rw [hx]; exact e3
    ·have : q = prB r base stamp ++ q2 := by rw [← e1, h4, drop_more h3]
     rw [h3, this, recsB_app, recsB_cons]
     simp [recsB]
    ·rw [Int.toNat_natCast, recsB_app, recsB_cons, h4]
     simp [recsB]
     omega
   ·cases h
theorem mark_back {m : UInt8} (h : m.toNat < 8) : UInt8.ofNat ((((m.toNat % 4 : Nat) : Int)).toNat + if decide (4 ≤ m.toNat) = true then 4 else 0) = m := by
 apply UInt8.toNat_inj.1
 rw [Int.toNat_natCast]
 by_cases h4 : 4 ≤ m.toNat
 ·rw [if_pos (decide_eq_true h4), u8_of (by omega)]
  omega
 ·rw [if_neg (by simpa using h4), u8_of (by omega)]
  omega
theorem parse_back {l : List UInt8} {x : Batch} (h : parseB 15 l = some x) : l = bodyB x := by
 unfold parseB at h
 cases hn : nums l 7 with
 | none => rw [hn] at h; cases h
 | some q =>
  obtain ⟨ns, p⟩ := q
  rw [hn] at h
  simp only [Option.bind_some] at h
  obtain ⟨hnl, hni, q0, hl0, rfl⟩ := nums_back 7 ns p hn
  unfold parse2 at h
  dsimp only at h
  cases hm : l[(headB ns).length]? with
  | none => rw [hm] at h; cases h
  | some m =>
   rw [hm] at h
   simp only [Option.bind_some] at h
   split at h
   rotate_left
   ·cases h
   rename_i hc
   obtain ⟨hm8, hn0, hn1⟩ := hc
   have hd1 := drop_1 hm
   unfold parse3 at h
   split at h
   rotate_left
   ·cases h
   rename_i hv
   obtain ⟨q1, e1, e2, e3⟩ := getV_back (a := (headB ns).length + 1) hv.1
   rw [show (((headB ns).length : Nat) : Int) + 1 = (((headB ns).length + 1 : Nat) : Int) from rfl] at h hv
   generalize getV l (((headB ns).length + 1 : Nat) : Int) = v at *
   obtain ⟨n, nx, er⟩ := v
   dsimp only at *
   subst e2
   generalize hsd : (if 0 < n then getV l (((headB ns).length + 1 + (pvB n).length : Nat) : Int) else (0, (((headB ns).length + 1 + (pvB n).length : Nat) : Int), 0)) = s at h
   unfold parse4 at h
   split at h
   rotate_left
   ·cases h
   rename_i hs
   cases hr : recsG l (ns.getD 0 0) s.1 s.2.1.toNat n.toNat with
   | none => rw [hr] at h; cases h
   | some q =>
    obtain ⟨rs, p3⟩ := q
    rw [hr] at h
    simp only [Option.bind_some] at h
    split at h
    rotate_left
    ·cases h
    rename_i hf
    obtain ⟨hp3, hso⟩ := hf
    cases h
    obtain ⟨hrl, hrc, q3, f1, f2⟩ := recsG_back _ rs p3 hr
    obtain ⟨n0, n1, n2, n3, n4, n5, n6, rfl⟩ : ∃ n0 n1 n2 n3 n4 n5 n6 : Int, ns = [n0, n1, n2, n3, n4, n5, n6] := by
     match ns, hnl with
     | [n0, n1, n2, n3, n4, n5, n6], _ => exact ⟨n0, n1, n2, n3, n4, n5, n6, rfl⟩
    have hhead : headN (mkB [n0, n1, n2, n3, n4, n5, n6] m rs) = [n0, n1, n2, n3, n4, n5, n6] := by
     have : n0 + n1 - n0 = n1 := by omega
     simp [headN, mkB, this]
    have hmark : markB (mkB [n0, n1, n2, n3, n4, n5, n6] m rs) = m := mark_back hm8
    have hlen : (rs.length : Int) = n := by omega
    have hq3 : q3 = [] := by
     have := congrArg List.length f1
     simp only [List.length_drop, List.length_append] at this
     exact List.eq_nil_of_length_eq_zero (by
      by_cases hsl : s.2.1.toNat ≤ l.length
      ·omega
      ·omega)
    subst hq3
    rw [List.append_nil] at f1
    have hbody : bodyB (mkB [n0, n1, n2, n3, n4, n5, n6] m rs) = headB [n0, n1, n2, n3, n4, n5, n6] ++ [m] ++ pvB n ++ tailB (mkB [n0, n1, n2, n3, n4, n5, n6] m rs) := by
     rw [bodyB, hhead, hmark]
     show _ ++ _ ++ pvB (rs.length : Int) ++ _ = _
     rw [hlen]
    rw [hbody]
    have hq0 : q0 = l.drop (headB [n0, n1, n2, n3, n4, n5, n6]).length := by rw [hl0, List.drop_left]
    have hz1 := drop_more e1
    have htail : q1 = tailB (mkB [n0, n1, n2, n3, n4, n5, n6] m rs) := by
     match rs, hrl, hso, f1 with
     | [], hrl, _, f1 =>
      have hn0' : ¬ 0 < n := by simp at hlen; omega
      rw [if_neg hn0'] at hsd
      subst hsd
      rw [Int.toNat_natCast] at f1
      dsimp only at f1
      rw [hz1] at f1
      rw [f1]
      simp [tailB, mkB, recsB]
     | r :: rs, hrl, hso, f1 =>
      have hn0' : 0 < n := by simp at hlen; omega
      rw [if_pos hn0'] at hsd
      subst hsd
      obtain ⟨q4, g1', g2', g3'⟩ := getV_back hs
      have hst : r.stamp = (getV l (((headB [n0, n1, n2, n3, n4, n5, n6]).length + 1 + (pvB n).length : Nat) : Int)).1 := by simpa [stOk] using hso
      rw [g2', Int.toNat_natCast, drop_more g1'] at f1
      rw [← hz1, g1', f1, tailB]
      simp only [mkB]
      rw [hst]
    rw [← htail, hl0]
    conv => lhs; rw [hq0, hd1, e1]
    simp
theorem bodyB_pos (x : Batch) : 0 < (bodyB x).length := by
 simp only [bodyB, List.length_append, List.length_cons, List.length_nil]
 omega
theorem parse_at {x : Batch} (hf : Form x) : parseB 15 (bodyB x) = some x := by
 have hf0 := hf
 obtain ⟨hrc, hrl⟩ := form_recs hf0
 obtain ⟨⟨f1, f2, f3⟩, ⟨f4, f5, f6⟩, ⟨f7, f8, f9, f10⟩, f11, f12, f13⟩ := hf
 simp [rng] at f1 f2 f3 f4 f5 f6
 have hi : ∀ n ∈ headN x, I64 n := by
  intro n hn
  simp [headN] at hn
  unfold I64
  omega
 have hb : bodyB x = headB (headN x) ++ (markB x :: (pvB x.recs.length ++ tailB x)) := by simp [bodyB]
 have h7 := nums_at hi hb 7 (by simp [headN])
 rw [show (headN x).take 7 = headN x from rfl] at h7
 have hctl : x.ctl = 0 ∨ x.ctl = 1 ∨ x.ctl = 2 := by
  rcases f13 with h | h
  ·exact .inl h.1
  ·exact .inr h.1
 have hmark : (markB x).toNat = x.ctl.toNat + (if x.txn = true then 4 else 0) := by
  rw [markB, u8_of]
  split <;> omega
 have hmk : mkB (headN x) (markB x) x.recs = x := by
  have h4 : x.base + (x.last - x.base) = x.last := by omega
  have h5 : decide (4 ≤ (markB x).toNat) = x.txn := by
   rw [hmark]
   cases x.txn
   ·simp; omega
   ·simp
  have h6 : (((markB x).toNat % 4 : Nat) : Int) = x.ctl := by
   rw [hmark]
   split <;> omega
  simp only [mkB, headN, List.getD_cons_zero, List.getD_cons_succ, h4, h5, h6]
 generalize bodyB x = l at hb h7 ⊢
 have hd0 : l.drop (headB (headN x)).length = markB x :: (pvB x.recs.length ++ tailB x) := by rw [hb, List.drop_left]
 have hm := at_0 hd0
 have hd1 : l.drop ((headB (headN x)).length + 1) = pvB x.recs.length ++ tailB x := drop_more (p := [markB x]) hd0
 have hv := getV_at (n := x.recs.length) (by unfold I64; omega) hd1
 have hd2 := drop_more hd1
 have hll : (l.drop ((headB (headN x)).length + 1 + (pvB (x.recs.length : Int)).length)).length = (tailB x).length := by rw [hd2]
 have hle : (headB (headN x)).length + 1 + (pvB (x.recs.length : Int)).length + (tailB x).length = l.length := by
  have := congrArg List.length hb
  simp only [List.length_append, List.length_cons] at this
  omega
 rw [parseB, h7]
 simp only [Option.bind_some]
 rw [parse2]
 dsimp only
 rw [hm]
 simp only [Option.bind_some]
 rw [if_pos ⟨by rw [hmark]; split <;> omega, by show 0 ≤ x.base ∧ x.base ≤ _; omega, by show 0 ≤ x.last - x.base ∧ x.last - x.base ≤ _; omega⟩]
 rw [show (((headB (headN x)).length : Nat) : Int) + 1 = (((headB (headN x)).length + 1 : Nat) : Int) from rfl, hv, parse3]
 dsimp only
 rw [if_pos ⟨rfl, by omega, by omega⟩, Int.toNat_natCast]
 generalize (headB (headN x)).length + 1 + (pvB (x.recs.length : Int)).length = p2 at hd2 hle
 have hbase : (headN x).getD 0 0 = x.base := rfl
 cases hr : x.recs with
 | nil =>
  rw [hr] at hmk
  have ht : tailB x = [] := by rw [tailB, hr]
  rw [if_neg (by simp), parse4, if_pos rfl, Int.toNat_natCast]
  simp only [List.length_nil, recsG, Option.bind_some]
  rw [if_pos ⟨by rw [ht] at hle; simpa using hle, rfl⟩, hmk]
 | cons r rs =>
  have ht : tailB x = pvB r.stamp ++ recsB x.base r.stamp (r :: rs) := by rw [tailB, hr]
  have hc0 := chk_small (hrc r (by rw [hr]; simp))
  have hsi := inO_iff.1 hc0.1.2
  rw [ht] at hd2 hle
  have hv2 := getV_at (n := r.stamp) (by unfold I64; omega) hd2
  have hd3 := drop_more hd2
  have hg := recsG_at (q := []) (inO_iff.2 f1) hc0.1.2 (fun y hy => hrc y (by rw [hr]; exact hy)) (by rw [hd3, List.append_nil]) (r :: rs).length (Nat.le_refl _)
  rw [List.take_length] at hg
  rw [if_pos (by simp only [List.length_cons]; omega), hv2, parse4]
  dsimp only
  rw [if_pos rfl, Int.toNat_natCast, hbase, hg]
  simp only [Option.bind_some]
  rw [if_pos ⟨by simp only [List.length_append] at hle; omega, by simp [stOk]⟩, ← hr, hmk]
theorem openB_at (b : List UInt8) : openB (sealB b) = (b, 0) := by
 have hl := sealB_len b
 have h1 : (sealB b).take ((sealB b).length - 4) = b := by
  rw [hl, Nat.add_sub_cancel, sealB, List.take_left]
 have h2 : (sealB b).drop ((sealB b).length - 4) = putN (crcB b).toNat 4 := by
  rw [hl, Nat.add_sub_cancel, sealB, List.drop_left]
 rw [openB, if_neg (by omega), h1, h2, if_pos rfl]
theorem openB_back {l : List UInt8} (h : (openB l).2 = 0) : l = sealB (openB l).1 := by
 unfold openB at h ⊢
 split at h
 ·cases h
 ·rename_i h0
  rw [if_neg h0]
  split at h
  ·rename_i h1
   rw [if_pos h1]
   dsimp only
   conv => lhs; rw [← List.take_append_drop (l.length - 4) l, h1]
   rfl
  ·cases h
theorem bytesB_pos (x : Batch) : 9 ≤ (bytesB x).length := by
 have := bodyB_pos x
 rw [bytesB_len]
 omega
theorem getB_at {l q : List UInt8} {a : Nat} {x : Batch} (h0 : errB x = 0) (h : l.drop a = bytesB x ++ q) : getB l (a : Int) = (x, ((a + (bytesB x).length : Nat) : Int), 0) := by
 obtain ⟨hf, hbl⟩ := errB_ok h0
 have hbp := bytesB_pos x
 have hb8 := bytesB_len x
 have hsl := sealB_len (bodyB x)
 have hd : l.drop a = putN (sealB (bodyB x)).length 4 ++ (sealB (bodyB x) ++ q) := by rw [h, bytesB, List.append_assoc]
 have hd4 : l.drop (a + 4) = sealB (bodyB x) ++ q := by
  have := drop_more hd
  rwa [putN_len] at this
 have hn : getN l (a : Int) 4 = ((sealB (bodyB x)).length, 0) := by
  rw [getN_nat, hd, if_neg (by simp [putN_len]), List.take_left' (putN_len _ _), numB_putN 4 _ (by omega)]
 rw [getB, hn]
 dsimp only
 rw [if_pos rfl, if_pos ⟨by omega, by omega⟩, Int.toNat_natCast, hd4, if_pos (by simp), List.take_left, openB_at]
 dsimp only
 rw [if_pos rfl, chkP_some (parse_at hf) h0]
 dsimp only
 refine Prod.ext rfl (Prod.ext ?_ rfl)
 dsimp only
 omega
theorem getB_back {l : List UInt8} {a : Int} (h : (getB l a).2.2 = 0) : ∃ (b : Nat) (q : List UInt8), a = b ∧ l.drop b = bytesB (getB l a).1 ++ q ∧ (getB l a).2.1 = ((b + (bytesB (getB l a).1).length : Nat) : Int) ∧ errB (getB l a).1 = 0 := by
 unfold getB at h ⊢
 split at h
 rotate_left
 ·rename_i h0; exact absurd h h0
 rename_i h0
 rw [if_pos h0]
 split at h
 rotate_left
 ·cases h
 rename_i h1
 rw [if_pos h1]
 split at h
 rotate_left
 ·cases h
 rename_i h2
 rw [if_pos h2]
 split at h
 rotate_left
 ·rename_i h3; exact absurd h h3
 rename_i h3
 rw [if_pos h3]
 obtain ⟨ha, hal⟩ := (getN_ok h0).resolve_right (by decide)
 obtain ⟨b, rfl⟩ : ∃ n : Nat, a = n := ⟨a.toNat, by omega⟩
 rw [Int.toNat_natCast] at *
 have hs := openB_back h3
 cases hp : chkP 15 (openB ((l.drop (b + 4)).take (getN l (b : Int) 4).1)).1 with
 | none => rw [hp] at h; cases h
 | some x =>
  rw [hp] at h
  dsimp only
  rw [chkP] at hp
  cases hq : parseB 15 (openB ((l.drop (b + 4)).take (getN l (b : Int) 4).1)).1 with
  | none => rw [hq] at hp; cases hp
  | some y =>
   rw [hq] at hp
   simp only [Option.bind_some] at hp
   split at hp
   rotate_left
   ·cases hp
   rename_i h4
   cases hp
   have hb := parse_back hq
   rw [hb] at hs
   have hn : getN l (b : Int) 4 = (numB ((l.drop b).take 4), 0) := by
    rw [getN_nat, if_neg (by simp; omega)]
   have hlen : (getN l (b : Int) 4).1 = (sealB (bodyB x)).length := by
    rw [← hs]
    simp only [List.length_take]
    omega
   have hd4 : l.drop (b + 4) = sealB (bodyB x) ++ (l.drop (b + 4)).drop (getN l (b : Int) 4).1 := by
    conv => lhs; rw [← List.take_append_drop (getN l (b : Int) 4).1 (l.drop (b + 4)), hs]
   have hd : l.drop b = (l.drop b).take 4 ++ l.drop (b + 4) := by
    rw [← List.drop_drop]
    exact (List.take_append_drop 4 _).symm
   have h44 : (l.drop b).take 4 = putN (sealB (bodyB x)).length 4 := by
    rw [← hlen, hn]
    exact (putN_numB 4 _ (by simp; omega)).symm
   refine ⟨b, (l.drop (b + 4)).drop (getN l (b : Int) 4).1, rfl, ?_, ?_, h4⟩
   ·rw [bytesB, List.append_assoc, ← hd4, ← h44]
    exact hd
   ·rw [bytesB, List.length_append, putN_len, ← hlen]
    omega
theorem F33 : Fun Tryz.prog 33 21 v33 c33 o33 := Fun.mkA Tryz.func33 Tryz.ntmps33
theorem FewAll_ok (l : List Batch) (n : Int) (v : Value) (G : Nat → Option Obj) (hl : SlV G (BE G) 10 v l) : FnE Tryz.prog 33 #[v, .int .i64 n] G (fun r => ∃ b, r = .bool b ∧ (b = true → (l.length : Int) ≤ n ∧ ∀ x ∈ l, x.recs.length ≤ 100)) := by
 obtain ⟨A, c, rfl, hc, hm, hA⟩ := hl
 refine F33.fnE (by simp) (go_of ?_)
 unfold c33
 intros; refine gr 0 0 ?_; refine sJ c33r0.eq_1 ?_
 intros; refine gr 0 0 ?_; refine sJ c33r1.eq_1 ?_
 (intros; try refine go_st ?_)
 refine go_loop (fun e h => ∃ k : Nat, (k ≤ l.length ∧ ∀ x ∈ l.take k, x.recs.length ≤ 100) ∧ e 9 = .int .i64 k ∧ e 8 = .int .i64 l.length ∧ e 7 = .slice A l.length c ∧ e 0 = .slice A l.length c ∧ e 1 = .int .i64 n ∧ h = ⟨G, [], []⟩) (fun e h => l.length - iv (e 9)) ?_ ?_
 ·exact ⟨0, ⟨Nat.zero_le _, by simp⟩, eE, eE, eE, eE, eE, rfl⟩
 ·rintro e h ⟨k, ⟨hk, hall⟩, e9, e8, e7, e0, e1, rfl⟩
  refine go_keep [0, 1, 7, 8, 9] ?_
  refine sJ5 @e0 @e1 @e7 @e8 @e9 ?_
  intros; refine gr 0 0 ?_; refine sJ c33r2.eq_1 ?_
  intros; refine gc ?_; refine sI ?_
  refine gb (fun ht => ?_) (fun ht => ?_)
  ·have hkl : k < l.length := by simpa using ht
   have hw3 := inc_i k c (by omega) hm
   obtain ⟨x, hx⟩ : ∃ x, l[k]? = some x := ⟨l[k], List.getElem?_eq_getElem (by omega)⟩
   intros; refine gN ?_
   intros; refine gr 11 13 ?_; refine sJ c33r3.eq_1 ?_
   refine hA.x_ld hx rfl rfl ?_
   rintro a1 ha1 cs hbe
   have hfew := Few_ok x cs G hbe
   obtain ⟨B, d, rfl, -⟩ := hbe
   unfold cellH at hfew ⊢
   refine sI ?_
   intros; refine gr 13 15 ?_; refine sJ c33r4.eq_1 ?_
   refine (hfew _ _).mono ?_
   rintro r h' ⟨⟨b1, rfl, hb1⟩, rfl⟩
   refine sI ?_
   intros; refine gc ?_; refine sI ?_
   refine gb (fun h1 => ?_) (fun h1 => ?_)
   ·intros; refine gr 0 0 ?_; refine sJ c33r5.eq_1 ?_
    intros; refine rV ?_; simp only [push_cast, Nat.reduceBEq]
    exact ⟨false, rfl, fun h => by cases h⟩
   ·have hb1 := hb1 (by simpa using h1)
    intros; refine gN ?_
    refine go_ghost (ghost_sub (L' := []) (.cons _ (List.Sublist.refl _))) ?_
    intros; refine gr 16 17 ?_; refine sJ c33r6.eq_1 ?_
    (intros; try refine go_st ?_)
    refine go_l ⟨⟨k + 1, ⟨by omega, fun z hz => ?_⟩, (eJ @hw3), eE, eE, eE, eE, rfl⟩, ?_⟩
    ·rw [List.take_add_one, hx] at hz
     rcases List.mem_append.1 hz with h | h
     ·exact hall z h
     ·simp at h; subst h; exact hb1
    ·refine sJ @hw3 ?_; omega
  ·have ht : k = l.length := by have := of_decide_eq_false ht; omega
   subst ht
   rw [List.take_length] at hall
   refine go_exit ?_
   refine sI ?_
   intros; refine gN ?_
   intros; refine gr 17 21 ?_; refine sJ c33r7.eq_1 ?_
   intros; refine rV ?_; simp only [push_cast, Nat.reduceBEq]
   exact ⟨_, rfl, fun h => ⟨of_decide_eq_true h, hall⟩⟩
def allB (l : List Batch) : List UInt8 := l.flatMap bytesB
theorem allB_take {l : List Batch} {k : Nat} {x : Batch} (hx : l[k]? = some x) : allB (l.take (k + 1)) = allB (l.take k) ++ bytesB x := by
 unfold allB
 rw [List.take_add_one, hx]
 simp [List.flatMap_append]
theorem allB_drop {l : List Batch} {k : Nat} {x : Batch} (hx : l[k]? = some x) : (allB l).drop (allB (l.take k)).length = bytesB x ++ allB (l.drop (k + 1)) := by
 obtain ⟨hk, he⟩ := List.getElem?_eq_some_iff.1 hx
 have h1 : allB l = allB (l.take k) ++ (bytesB x ++ allB (l.drop (k + 1))) := by
  conv => lhs; rw [← List.take_append_drop k l, List.drop_eq_getElem_cons hk, he]
  simp [allB, List.flatMap_append]
 rw [h1, List.drop_left]
theorem stp_0 {v : W32} (h : stp v = 0#32) : v = 0#32 := by
 cases hb : v.getLsbD 0 with
 | true =>
  exfalso
  rw [stp, if_pos hb] at h
  have h2 : ((v >>> 1) ^^^ poly).getLsbD 31 = (0#32).getLsbD 31 := by rw [h]
  rw [BitVec.getLsbD_xor, BitVec.getLsbD_ushiftRight] at h2
  have h3 : v.getLsbD (1 + 31) = false := BitVec.getLsbD_of_ge _ _ (by omega)
  rw [h3] at h2
  exact absurd h2 (by decide)
 | false =>
  rw [stp_even hb] at h
  have h1 : (v >>> 1).toNat = 0 := by rw [h]; rfl
  rw [BitVec.toNat_ushiftRight, Nat.shiftRight_eq_div_pow] at h1
  have h2 : ¬ v.toNat % 2 = 1 := fun hh => by rw [(bit0 v).2 hh] at hb; cases hb
  apply BitVec.eq_of_toNat_eq
  show v.toNat = 0
  omega
structure Sg where
 base : Int
 bytes : List UInt8
deriving DecidableEq
def ordB : Int → List Batch → Prop
 | _, [] => True
 | nx, x :: xs => nx ≤ x.base ∧ ordB (x.last + 1) xs
def nextB : Int → List Batch → Int
 | nx, [] => nx
 | _, x :: xs => nextB (x.last + 1) xs
def moreB (q : List UInt8) (nx : Int) : Prop := (getB q 0).2.2 = 0 ∧ nx ≤ (getB q 0).1.base
instance (q : List UInt8) (nx : Int) : Decidable (moreB q nx) := by unfold moreB; infer_instance
def scanF : Nat → Int → List UInt8 → List Batch
 | 0, _, _ => []
 | f + 1, nx, q => if moreB q nx then (getB q 0).1 :: scanF f ((getB q 0).1.last + 1) (q.drop (bytesB (getB q 0).1).length) else []
structure Scans (nx : Int) (q : List UInt8) (bs : List Batch) (r : List UInt8) : Prop where
 eq : q = allB bs ++ r
 ok : ∀ x ∈ bs, errB x = 0
 ord : ordB nx bs
 stop : ¬ moreB r (nextB nx bs)
def scanB (s : Sg) : List Batch := scanF s.bytes.length s.base s.bytes
def goodB (s : Sg) : Nat := (allB (scanB s)).length
def endB (s : Sg) : Int := nextB s.base (scanB s)
theorem allB_cons (x : Batch) (l : List Batch) : allB (x :: l) = bytesB x ++ allB l := rfl
theorem allB_app (a b : List Batch) : allB (a ++ b) = allB a ++ allB b := by simp [allB]
theorem nextB_app (nx : Int) (a b : List Batch) : nextB nx (a ++ b) = nextB (nextB nx a) b := by
 induction a generalizing nx with
 | nil => rfl
 | cons x a ih => exact ih _
theorem ordB_app (nx : Int) (a b : List Batch) : ordB nx (a ++ b) ↔ ordB nx a ∧ ordB (nextB nx a) b := by
 induction a generalizing nx with
 | nil => simp [ordB, nextB]
 | cons x a ih => simp only [List.cons_append, ordB, nextB, ih, and_assoc]
theorem getB_0 {q s : List UInt8} {x : Batch} (h0 : errB x = 0) (h : q = bytesB x ++ s) : getB q 0 = (x, ((bytesB x).length : Int), 0) := by
 have := getB_at (l := q) (a := 0) h0 h
 rw [Nat.zero_add] at this
 exact this
theorem more_ok {q : List UInt8} {nx : Int} (h : moreB q nx) : ∃ x s, getB q 0 = (x, ((bytesB x).length : Int), 0) ∧ q = bytesB x ++ s ∧ errB x = 0 ∧ nx ≤ x.base := by
 obtain ⟨h1, h2⟩ := h
 obtain ⟨b, s, e0, e1, e2, e3⟩ := getB_back h1
 have hb : b = 0 := by omega
 subst hb
 exact ⟨_, s, getB_0 e3 e1, e1, e3, h2⟩
theorem more_at {q s : List UInt8} {x : Batch} {nx : Int} (h0 : errB x = 0) (h : q = bytesB x ++ s) : moreB q nx ↔ nx ≤ x.base := by
 rw [moreB, getB_0 h0 h]
 simp
theorem scanF_spec : ∀ (f : Nat) (nx : Int) (q : List UInt8), q.length ≤ f → ∃ r, Scans nx q (scanF f nx q) r
 | 0, nx, q, h => by
  have hq : q = [] := List.eq_nil_of_length_eq_zero (by omega)
  subst hq
  refine ⟨[], ⟨rfl, fun x hx => (by cases hx), trivial, fun hm => ?_⟩⟩
  obtain ⟨x, s, -, e, -⟩ := more_ok hm
  have := bytesB_pos x
  have h2 := congrArg List.length e
  simp at h2
  omega
 | f + 1, nx, q, h => by
  unfold scanF
  split
  ·rename_i hm
   obtain ⟨x, s, e1, e2, e3, e4⟩ := more_ok hm
   rw [e1]
   dsimp only
   have hp := bytesB_pos x
   have hd : q.drop (bytesB x).length = s := by rw [e2, List.drop_left]
   rw [hd]
   obtain ⟨r, hr⟩ := scanF_spec f (x.last + 1) s (by rw [e2, List.length_append] at h; omega)
   refine ⟨r, ⟨by rw [allB_cons, List.append_assoc, ← hr.eq, e2], fun y hy => ?_, ⟨e4, hr.ord⟩, hr.stop⟩⟩
   rcases List.mem_cons.1 hy with rfl | hy
   ·exact e3
   ·exact hr.ok y hy
  ·rename_i hm
   exact ⟨q, ⟨rfl, fun x hx => (by cases hx), trivial, hm⟩⟩
theorem scan_spec (s : Sg) : ∃ r, Scans s.base s.bytes (scanB s) r := scanF_spec _ _ _ (Nat.le_refl _)
theorem Scans.uniq : ∀ {bs bs' : List Batch} {nx : Int} {q r r' : List UInt8}, Scans nx q bs r → Scans nx q bs' r' → bs = bs' ∧ r = r'
 | [], [], nx, q, r, r', h, h' => ⟨rfl, by have := h.eq.symm.trans h'.eq; exact this⟩
 | [], x :: bs', nx, q, r, r', h, h' => by
  have hq : q = r := h.eq
  subst hq
  exact absurd ((more_at (h'.ok x (.head _)) (by rw [h'.eq, allB_cons, List.append_assoc])).2 h'.ord.1) h.stop
 | x :: bs, [], nx, q, r, r', h, h' => by
  have hq : q = r' := h'.eq
  subst hq
  exact absurd ((more_at (h.ok x (.head _)) (by rw [h.eq, allB_cons, List.append_assoc])).2 h.ord.1) h'.stop
 | x :: bs, y :: bs', nx, q, r, r', h, h' => by
  have e1 : q = bytesB x ++ (allB bs ++ r) := by rw [h.eq, allB_cons, List.append_assoc]
  have e2 : q = bytesB y ++ (allB bs' ++ r') := by rw [h'.eq, allB_cons, List.append_assoc]
  have g1 := getB_0 (h.ok x (.head _)) e1
  have g2 := getB_0 (h'.ok y (.head _)) e2
  rw [g1] at g2
  have hxy : x = y := congrArg Prod.fst g2
  subst hxy
  rw [e1] at e2
  have e3 := List.append_cancel_left e2
  obtain ⟨rfl, rfl⟩ := Scans.uniq (nx := x.last + 1) (q := allB bs ++ r) ⟨rfl, fun z hz => h.ok z (.tail _ hz), h.ord.2, h.stop⟩ ⟨e3, fun z hz => h'.ok z (.tail _ hz), h'.ord.2, h'.stop⟩
  exact ⟨rfl, rfl⟩
theorem Scans.is {s : Sg} {bs : List Batch} {r : List UInt8} (h : Scans s.base s.bytes bs r) : scanB s = bs := by
 obtain ⟨r', h'⟩ := scan_spec s
 exact (h'.uniq h).1
theorem getB_drop {l : List UInt8} {a : Nat} : (getB l (a : Int)).1 = (getB (l.drop a) 0).1 ∧ (getB l (a : Int)).2.2 = (getB (l.drop a) 0).2.2 := by
 have h1 : getN l (a : Int) 4 = getN (l.drop a) 0 4 := by
  unfold getN
  rw [if_neg (show ¬ (a : Int) < 0 by omega), if_neg (show ¬ (0 : Int) < 0 by omega)]
  simp only [Int.toNat_natCast, Int.toNat_zero, List.drop_zero]
 have h2 : l.drop (a + 4) = (l.drop a).drop 4 := by rw [List.drop_drop]
 unfold getB
 rw [h1]
 simp only [Int.toNat_natCast, h2, Int.toNat_zero, Nat.zero_add]
 split
 ·split
  ·split
   ·split
    ·split <;> exact ⟨rfl, rfl⟩
    ·exact ⟨rfl, rfl⟩
   ·exact ⟨rfl, rfl⟩
  ·exact ⟨rfl, rfl⟩
 ·exact ⟨rfl, rfl⟩
theorem allB_take_le (l : List Batch) (k : Nat) : (allB (l.take k)).length ≤ (allB l).length := by
 conv => rhs; rw [← List.take_append_drop k l, allB_app, List.length_append]
 omega
theorem Scans.len {nx : Int} {q r : List UInt8} {bs : List Batch} (h : Scans nx q bs r) : 9 * bs.length ≤ (allB bs).length ∧ (allB bs).length ≤ q.length := by
 refine ⟨?_, by rw [h.eq, List.length_append]; omega⟩
 clear h
 induction bs with
 | nil => simp
 | cons x bs ih =>
  have := bytesB_pos x
  rw [allB_cons, List.length_append, List.length_cons]
  omega
theorem Scans.at_ {nx : Int} {q r : List UInt8} {bs : List Batch} (h : Scans nx q bs r) {k : Nat} {x : Batch} (hx : bs[k]? = some x) :
  getB q (((allB (bs.take k)).length : Nat) : Int) = (x, (((allB (bs.take (k + 1))).length : Nat) : Int), 0) ∧ nextB nx (bs.take k) ≤ x.base ∧ nextB nx (bs.take (k + 1)) = x.last + 1 ∧ errB x = 0 := by
 have hd : q.drop (allB (bs.take k)).length = bytesB x ++ (allB (bs.drop (k + 1)) ++ r) := by
  have := allB_drop hx
  rw [h.eq, List.drop_append_of_le_length (allB_take_le _ _), this, List.append_assoc]
 obtain ⟨hk, he⟩ := List.getElem?_eq_some_iff.1 hx
 have e1 : bs = bs.take k ++ (x :: bs.drop (k + 1)) := by
  conv => lhs; rw [← List.take_append_drop k bs, List.drop_eq_getElem_cons hk, he]
 have ho := h.ord
 rw [e1, ordB_app] at ho
 have h0 := h.ok x (List.mem_of_getElem? hx)
 refine ⟨?_, ho.2.1, ?_, h0⟩
 ·rw [getB_at h0 hd, allB_take hx, List.length_append]
 ·rw [List.take_add_one, hx]
  show nextB nx (bs.take k ++ [x]) = _
  rw [nextB_app]
  rfl
theorem Scans.end_ {nx : Int} {q r : List UInt8} {bs : List Batch} (h : Scans nx q bs r) : ¬ (getB q (((allB bs).length : Nat) : Int)).2.2 = 0 ∨ (getB q (((allB bs).length : Nat) : Int)).1.base < nextB nx bs := by
 have hs := h.stop
 have hd := @getB_drop q (allB bs).length
 have e : q.drop (allB bs).length = r := by rw [h.eq, List.drop_left]
 rw [e] at hd
 rw [hd.1, hd.2]
 unfold moreB at hs
 by_cases h0 : (getB r 0).2.2 = 0
 ·right
  have : ¬ nextB nx bs ≤ (getB r 0).1.base := fun hh => hs ⟨h0, hh⟩
  omega
 ·exact .inl h0
theorem F89 : Fun Tryz.prog 89 4 v89 c89 o89 := Fun.mkA Tryz.func89 Tryz.ntmps89
theorem F101 : Fun Tryz.prog 101 37 v101 c101 o101 := Fun.mkA Tryz.func101 Tryz.ntmps101
theorem F73 : Fun Tryz.prog 73 17 v73 c73 o73 := Fun.mkA Tryz.func73 Tryz.ntmps73
theorem F68 : Fun Tryz.prog 68 15 v68 c68 o68 := Fun.mkA Tryz.func68 Tryz.ntmps68
theorem rmR_no {s : Nat} : ∀ {L : List Kx.Item}, NoRegs L → rmR s L = L
 | [], _ => rfl
 | .reg s' cs :: L, h => absurd (.head _) (h s' cs)
 | .blk b cs :: L, h => congrArg (Kx.Item.blk b cs :: ·) (rmR_no (s := s) fun s cs hm => h s cs (.tail _ hm))
 | .row v e sz n xs :: L, h => congrArg (Kx.Item.row v e sz n xs :: ·) (rmR_no (s := s) fun s cs hm => h s cs (.tail _ hm))
 | .obj b o :: L, h => congrArg (Kx.Item.obj b o :: ·) (rmR_no (s := s) fun s cs hm => h s cs (.tail _ hm))
theorem gx_ne {h : H} {b b' : Nat} {c c' : List Value} (hs : List.Sublist [Kx.Item.blk b c, .blk b' c'] h.L) : GhostX h fun h' => h' = h ∧ ¬ b = b' := GhostX.fact fun β w s => by
 have hd : (dom β [Kx.Item.blk b c, .blk b' c']).Sublist (dom β h.L) := hs.filterMap _
 have := hd.nodup (List.nodup_append.1 s.nd).1
 simpa [dom, Item.block] using this
theorem cells_imp {α : Type} {E E' : α → List Value → Prop} {sz : Nat} {xs : List α} {ys : List Value} (h : Cells E sz xs ys) (hE : ∀ x cs, E x cs → E' x cs) : Cells E' sz xs ys := by
 induction h with
 | nil => exact .nil
 | cons h1 h2 _ ih => exact .cons (hE _ _ h1) h2 ih
def cellS (s : Sg) (A : Option Addr) (c : Nat) : List Value := [.int .i64 s.base, .slice A s.bytes.length c]
def SE (G : Nat → Option Obj) (s : Sg) (cs : List Value) : Prop := ∃ A c, cs = cellS s A c ∧ SB G (.slice A s.bytes.length c) s.bytes ∧ I64 s.base
theorem SE.le {G G' : Nat → Option Obj} (hg : Gle G G') {s : Sg} {cs : List Value} (h : SE G s cs) : SE G' s cs := by
 obtain ⟨A, c, h1, h2, h3⟩ := h
 exact ⟨A, c, h1, SB.le h2 hg, h3⟩
def EB (bs : List Batch) (G : Nat → Option Obj) (k : Nat) (args : Array Value) : Prop := ∃ x cs, bs[k]? = some x ∧ BE G x cs ∧ args = #[.agg cs.toArray, .int .i64 (((allB (bs.take (k + 1))).length : Nat) : Int)]
theorem last_i {x : Batch} (h : errB x = 0) : IntKind.i64.wrap (x.last + 1) = x.last + 1 := by
 obtain ⟨⟨-, f2, -⟩, -⟩ := (errB_ok h).1
 simp [rng] at f2
 rw [w64_id] <;> omega
theorem range_at {n k i : Nat} (h : (List.range n)[k]? = some i) : i = k ∧ k < n := by
 have h1 := (List.getElem?_eq_some_iff.1 h).1
 rw [List.length_range] at h1
 rw [List.getElem?_range h1] at h
 cases h
 exact ⟨rfl, h1⟩
theorem each1_iter (s : Sg) (A : Option Addr) (c b : Nat) (G0 : Nat → Option Obj) (hl : SB G0 (.slice A s.bytes.length c) s.bytes) (hb : s.bytes.length ≤ 1000000) (h0 : cellG G0 ⟨b, 0, none⟩ = some (.int .i64 s.base)) (h1 : cellG G0 ⟨b, 1, none⟩ = some (.slice A s.bytes.length c)) :
  IterH Tryz.prog 101 #[.pointer (some ⟨b, 0, none⟩)] (List.range (scanB s).length) (EB (scanB s)) G0 := by
 obtain ⟨r, hsc⟩ := scan_spec s
 generalize scanB s = bs at hsc
 intro yl I Ix G L hG hn hI hIx hmo hi0 hy L2 D
 have hargs : (#[.func (.yield yl) #[] #[]] ++ #[.pointer (some ⟨b, 0, none⟩)] : Array Value) = #[.func (.yield yl) #[] #[], .pointer (some ⟨b, 0, none⟩)] := rfl
 rw [hargs, List.length_range]
 refine (F101.calls (R := fun _ h => Gle G h.G ∧ (I bs.length h.G h.L ∨ ∃ i, i < bs.length ∧ Ix i h.G h.L)) (by simp) hn (go_of ?_) L2 D).mono ?_
 rotate_left
 ·rintro v h' ⟨G', L', rfl, hn', hgg, hr⟩
  exact ⟨G', L', rfl, hgg, hn', hr⟩
 have e0 := cellG_le hG h0
 have e1 := cellG_le hG h1
 have hlG := SB.le hl hG
 have hlen := hsc.len
 unfold c101
 (intros; try refine go_st ?_); refine go_q 8 10 (by decide) ?_; refine sJ c101r0.eq_1 ?_
 refine ⟨_, ⟨_, rfl, .g e0⟩, ?_⟩
 refine sI ?_
 (intros; try refine go_st ?_)
 refine go_loop (fun e h => ∃ (t : Nat) (G' : Nat → Option Obj) (L' Lh : List Kx.Item), (t ≤ bs.length ∧ Gle G G' ∧ NoRegs L' ∧ I t G' L') ∧ e 3 = .int .i64 (((allB (bs.take t)).length : Nat) : Int) ∧ e 4 = .int .i64 (nextB s.base (bs.take t)) ∧ e 0 = .func (.yield yl) #[] #[] ∧ e 1 = .pointer (some ⟨b, 0, none⟩) ∧ h = ⟨G', Lh, []⟩ ∧ L'.Sublist Lh) (fun e h => s.bytes.length + 1 - iv (e 3)) ?_ ?_
 ·exact ⟨0, G, L, L, ⟨Nat.zero_le _, .refl G, hn, hi0⟩, rfl, rfl, eE, eE, rfl, List.Sublist.refl _⟩
 rintro e h ⟨t, G', L', Lh, ⟨ht, hgg, hn', hI'⟩, e3, e4, e00, e11, rfl, hsub⟩
 refine go_keep [0, 1, 3, 4] ?_
 refine sJ4 @e00 @e11 @e3 @e4 ?_
 intros
 refine go_ghost (ghost_sub hsub) ?_
 have hrm := rmR_no (s := 5) hn'
 have e1' := cellG_le hgg e1
 have hget := BGet_ok s.bytes (((allB (bs.take t)).length : Nat) : Int) _ G' (SB.le hlG hgg) hb
 unfold GetBR at hget
 have htk := allB_take_le bs t
 have hw1 : IntKind.i64.wrap (((allB (bs.take t)).length : Nat) : Int) = (((allB (bs.take t)).length : Nat) : Int) := by rw [w64_id] <;> omega
 intros; refine gr 10 18 ?_; refine sJ c101r1.eq_1 ?_
 refine ⟨_, ⟨_, rfl, .g e1'⟩, ?_⟩
 refine sI ?_
 refine (hget _ _).mono ?_
 rintro v h' ⟨G1, rfl, hg1, cs, rfl, hbe⟩
 by_cases htl : t < bs.length
 ·obtain ⟨x, hx⟩ : ∃ x, bs[t]? = some x := ⟨bs[t], List.getElem?_eq_getElem htl⟩
  obtain ⟨a1, a2, a3, a4⟩ := hsc.at_ hx
  rw [a1] at hbe ⊢
  dsimp only at hbe ⊢
  have hbe0 := hbe
  obtain ⟨B, d, rfl, -⟩ := hbe
  have hlt : (allB (bs.take t)).length < (allB (bs.take (t + 1))).length := by
   have := bytesB_pos x
   rw [allB_take hx, List.length_append]
   omega
  have hle := allB_take_le bs (t + 1)
  have hEB : EB bs G1 t #[.agg (cellH x (.slice B x.recs.length d)).toArray, .int .i64 (((allB (bs.take (t + 1))).length : Nat) : Int)] := ⟨x, _, hx, hbe0, rfl⟩
  unfold cellH at hbe0 hEB ⊢
  generalize hn1 : (allB (bs.take (t + 1))).length = n1 at *
  generalize (allB (bs.take t)).length = n0 at *
  have a2' : decide (x.base < nextB s.base (bs.take t)) = false := decide_eq_false (by omega)
  have hlw := last_i a4
  refine sJ @hrm ?_
  have hz : decide ((0 : Int) ≠ 0) = false := by decide
  intros; refine gr 18 32 ?_; refine sJ3 c101r2.eq_1 @hz @a2' ?_
  refine .inr ⟨yl, rfl, ?_⟩
  refine YieldH.ghost (ghost_perm (List.perm_append_comm (l₁ := [_]))) ?_
  refine (hy t t _ G1 L' (List.getElem?_range htl) (hgg.trans hg1) hEB (hmo _ _ _ _ hg1 hI') [_] []).mono ?_
  rintro v h' ⟨G2, L3, rfl, hg2, hn2, hr⟩
  rcases hr with ⟨rfl, hr⟩ | ⟨rfl, hr⟩
  ·refine sI ?_
   intros; refine gc ?_; refine sI ?_
   refine go_ghost (ghost_perm (List.perm_append_comm (l₂ := [_]))) ?_
   (intros; try refine go_st ?_); refine go_q 33 37 (by decide) ?_; refine sJ2 c101r3.eq_1 @hlw ?_
   (intros; try refine go_st ?_)
   refine go_l ⟨⟨t + 1, G2, L3, _, ⟨by omega, (hgg.trans hg1).trans hg2, hn2, hr⟩, (eJ @hn1), (eJ @a3), eE, eE, rfl, .cons _ (List.Sublist.refl _)⟩, ?_⟩
   refine sI ?_
   omega
  ·refine sI ?_
   intros; refine gc ?_; refine sI ?_
   (intros; try refine go_st ?_)
   refine go_ret (retQ_o L3 rfl (List.sublist_append_left _ _) hn2 ?_)
   exact ⟨(hgg.trans hg1).trans hg2, .inr ⟨t, htl, hr⟩⟩
 ·have htl : t = bs.length := by omega
  subst htl
  rw [List.take_length] at hget hbe ⊢
  have hend := hsc.end_
  generalize getB s.bytes (((allB bs).length : Nat) : Int) = q at *
  obtain ⟨x, nx, er⟩ := q
  dsimp only at hbe hend ⊢
  obtain ⟨B, d, rfl, -⟩ := hbe
  unfold cellH
  have hfin : Gle G G1 ∧ (I bs.length G1 L' ∨ ∃ i, i < bs.length ∧ Ix i G1 L') := ⟨hgg.trans hg1, .inl (hmo _ _ _ _ hg1 hI')⟩
  refine sJ @hrm ?_
  intros; refine gr 18 32 ?_; refine sJ c101r2.eq_1 ?_
  refine gd (fun k1 => ?_) (fun k1 => ?_)
  ·refine sI ?_
   intros; refine gc ?_; refine sI ?_
   (intros; try refine go_st ?_)
   exact go_ret (retQ_o L' rfl (.cons _ (List.Sublist.refl _)) hn' hfin)
  ·have k1 : er = 0 := by simpa using k1
   have k2 : decide (x.base < nextB s.base bs) = true := decide_eq_true (by rcases hend with h | h; exact absurd k1 h; exact h)
   refine sJ @k2 ?_
   intros; refine gc ?_; refine sI ?_
   (intros; try refine go_st ?_)
   exact go_ret (retQ_o L' rfl (.cons _ (List.Sublist.refl _)) hn' hfin)
theorem each_ok (s : Sg) (cs : List Value) (G : Nat → Option Obj) (hs : SE G s cs) (hb : s.bytes.length ≤ 1000000) :
  FnD Tryz.prog 89 #[.agg cs.toArray] G (fun G' r => ∃ b, r = .func (.func 101) #[] #[.pointer (some ⟨b, 0, none⟩)] ∧ IterH Tryz.prog 101 #[.pointer (some ⟨b, 0, none⟩)] (List.range (scanB s).length) (EB (scanB s)) G') := by
 obtain ⟨A, c, rfl, hl, hi⟩ := hs
 refine F89.fnD (by simp) (go_of ?_)
 unfold c89 cellS
 intros; refine gr 0 0 ?_; refine sJ c89r0.eq_1 ?_
 intro b1 hb1
 (intros; try refine go_st ?_)
 refine go_gx gx_blk ?_
 rintro h' ⟨G1, rfl, hg1, hc1⟩
 have e0 := hc1 0 _ rfl
 have e1 := hc1 1 _ rfl
 rw [add_off] at e0 e1
 intros; refine gr 3 4 ?_; refine sJ c89r1.eq_1 ?_
 intros; refine rV ?_; simp only [push_cast, Nat.reduceBEq]
 exact ⟨b1, rfl, each1_iter s A c b1 G1 (SB.le hl hg1) hb e0 e1⟩
def ScanR (s : Sg) (G' : Nat → Option Obj) (L' : List Kx.Item) (r : Value) : Prop := ∃ u zc, r = .tuple #[u, .int .i64 ((goodB s : Nat) : Int)] ∧ Cells (BE G') 10 (scanB s) zc ∧ L' = [.row u 39 10 (scanB s).length zc]
theorem Scan_ok (s : Sg) (cs : List Value) (G : Nat → Option Obj) (hs : SE G s cs) (hb : s.bytes.length ≤ 1000000) : FnO Tryz.prog 73 #[.agg cs.toArray] G [] (fun G' L' r => ScanR s G' L' r) := by
 have hs0 := hs
 obtain ⟨A, c, rfl, hl, hi⟩ := hs
 refine F73.fnO (by simp) noRegs_nil (go_of ?_)
 unfold c73
 unfold cellS at hs0 ⊢
 intros; refine gr 0 0 ?_; refine sJ c73r0.eq_1 ?_
 intro b1 hb1 b2 hb2 b3 hb3
 (intros; try refine go_st ?_)
 refine go_gx (gx_blk_at [_, _] _) ?_
 rintro h' ⟨G1, rfl, hg1, f1⟩
 have e0 := f1 0 _ rfl
 have e1 := f1 1 _ rfl
 rw [add_off] at e0 e1
 intros; refine gr 6 7 ?_; refine sJ c73r1.eq_1 ?_
 refine ⟨_, ⟨_, [.int .i64 s.base, .slice A s.bytes.length c], rfl, rfl, rfl, fun j u hu => .g (f1 j u hu)⟩, ?_⟩
 refine sI ?_
 refine (each_ok s _ G1 (SE.le hg1 hs0) hb _ _).mono ?_
 rintro r h' ⟨G2, rfl, hg2, b, rfl, hit⟩
 obtain ⟨rr, hsc⟩ := scan_spec s
 have hSR : ∀ G' u zc, Cells (BE G') 10 (scanB s) zc → ScanR s G' [.row u 39 10 (scanB s).length zc] (.tuple #[u, .int .i64 (((allB (scanB s)).length : Nat) : Int)]) := fun G' u zc h => ⟨u, zc, rfl, h, rfl⟩
 generalize scanB s = bs at hit hsc hSR
 have hlen := hsc.len
 refine sI ?_
 (intros; try refine go_st ?_)
 refine go_ghost (ghost_nil none 39 10) ?_
 refine go_rf (α := Nat) (fun k G' L' => ∃ u zc, L' = [.row u 39 10 (bs.take k).length zc, .blk b3 [.int .i64 (((allB (bs.take k)).length : Nat) : Int)], .blk b2 [u]] ∧ Cells (BE G') 10 (bs.take k) zc) (fun _ _ _ _ => False) (eE) F101.enters (noRegs_row (noRegs_blk (noRegs_blk noRegs_nil)))
  (fun i G G' L hg ⟨u, zc, h1, h2⟩ => ⟨u, zc, h1, cells_imp h2 fun _ _ h => BE.le hg h⟩) hit (fun G x args h => by obtain ⟨y, _, _, _, rfl⟩ := h; rfl) ⟨_, [], rfl, .nil⟩ ?_ ?_ ?_
 ·rintro yl k i args G' L' hki hgl ⟨x, cs, hx, hbe, rfl⟩ ⟨u, zc, rfl, hzc⟩ _
  obtain ⟨rfl, hkl⟩ := range_at hki
  have hbe0 := hbe
  obtain ⟨B, d, rfl, -⟩ := hbe
  unfold cellH at hbe0 ⊢
  refine sI ?_
  intros; refine gr 0 0 ?_; refine sJ c73r2.eq_1 ?_
  intros; refine gr 0 0 ?_; refine sJ c73r3.eq_1 ?_
  intro bb
  refine go_nil (rnd_a ?_)
  have htk : bs.take (i + 1) = bs.take i ++ [x] := by rw [List.take_add_one, hx]; rfl
  have hkl2 : (bs.take i).length ≤ bs.length := by rw [List.length_take]; omega
  intros; refine gr 10 15 ?_; refine sJ c73r4.eq_1 ?_
  refine ⟨_, ldN_blk (.tail _ (.tail _ (.tail _ (.head _)))) rfl, ?_⟩
  refine sI ?_
  intro bk hbk
  refine app1 (L1 := [_]) (L2 := [_, _]) (E := BE G') (x := x) rfl hbe0 rfl (by simp [Value.oneCell']) hzc (by omega) (by omega) fun A' c' zc' hzc' => ?_
  rw [← htk] at hzc' ⊢
  refine sI ?_
  refine stX_blk [_, _, _, _] [] rfl (by simp) ⟨rfl, rfl⟩ ?_
  refine sI ?_
  refine stX_blk [_, _, _] [_] rfl (by simp) ⟨rfl, rfl⟩ ?_
  refine sI ?_
  (intros; try refine go_st ?_)
  refine go_nil (rnd_n _ (.cons _ (.cons _ (List.Sublist.refl _))) (noRegs_row (noRegs_blk (noRegs_blk noRegs_nil))) ⟨_, zc', rfl, hzc'⟩)
 ·rintro G' L' dd hgl ⟨u, zc, rfl, hzc⟩ _
  rw [List.length_range] at hzc ⊢
  rw [List.take_length] at hzc ⊢
  (intros; try refine go_st ?_)
  refine go_gx (gx_knowS (.head _)) ?_
  rintro h' ⟨rfl, A2, c2, rfl, -, -⟩
  refine go_gx (gx_ne (.cons _ (List.Sublist.refl _))) ?_
  rintro h' ⟨rfl, hne⟩
  (intros; try refine go_st ?_); refine go_w _ (List.Sublist.refl _) (by decide) ?_; refine sJ c73r5.eq_1 ?_
  refine ⟨_, ldN_blk (.tail _ (.tail _ (.head _))) rfl, ?_⟩
  refine sI ?_
  refine ⟨_, ldN_blk (.tail _ (.head _)) rfl, ?_⟩
  refine sI ?_
  refine stX_blk [_, _] [] rfl (by simp) ⟨rfl, rfl⟩ ?_
  refine sI ?_
  refine stX_blk [_] [_] rfl (by simp) ⟨rfl, rfl⟩ ?_
  refine sI ?_
  (intros; try refine go_st ?_)
  refine go_ret (retQ_o (out := [.slice A2 bs.length c2, .int .i64 (((allB bs).length : Nat) : Int)]) _ ?_ (.cons_cons _ (List.nil_sublist _)) (noRegs_row noRegs_nil) (hSR G' _ _ hzc))
  simp [o73, resV, Kx.getB, blkO, ldC, Env.set, hne]
 ·rintro ex i G' L' d _ _ h
  exact h.elim
theorem nextB_at {bs : List Batch} {k : Nat} {x : Batch} (nx : Int) (hx : bs[k]? = some x) : nextB nx (bs.take (k + 1)) = x.last + 1 := by
 rw [List.take_add_one, hx]
 show nextB nx (bs.take k ++ [x]) = _
 rw [nextB_app]
 rfl
theorem End_ok (s : Sg) (cs : List Value) (G : Nat → Option Obj) (hs : SE G s cs) (hb : s.bytes.length ≤ 1000000) : FnS Tryz.prog 68 #[.agg cs.toArray] G (.int .i64 (endB s)) := by
 have hs0 := hs
 obtain ⟨A, c, rfl, hl, hi⟩ := hs
 refine F68.fnS (by simp) (go_of ?_)
 unfold c68
 unfold cellS at hs0 ⊢
 intros; refine gr 0 0 ?_; refine sJ c68r0.eq_1 ?_
 intro b1 hb1
 (intros; try refine go_st ?_)
 refine go_gx gx_blk ?_
 rintro h' ⟨G1, rfl, hg1, f1⟩
 have e0 := f1 0 _ rfl
 rw [add_off] at e0
 intros; refine gr 5 7 ?_; refine sJ c68r1.eq_1 ?_
 refine ⟨_, ⟨_, rfl, .g e0⟩, ?_⟩
 refine sI ?_
 intro b3 hb3
 refine stX_blk [] [] rfl (by simp) ⟨rfl, rfl⟩ ?_
 refine sI ?_
 intros; refine gr 7 8 ?_; refine sJ c68r2.eq_1 ?_
 refine ⟨_, ⟨_, [.int .i64 s.base, .slice A s.bytes.length c], rfl, rfl, rfl, fun j u hu => .g (f1 j u hu)⟩, ?_⟩
 refine sI ?_
 refine (each_ok s _ G1 (SE.le hg1 hs0) hb _ _).mono ?_
 rintro r h' ⟨G2, rfl, hg2, b, rfl, hit⟩
 obtain ⟨rr, hsc⟩ := scan_spec s
 have hend : endB s = nextB s.base (scanB s) := rfl
 generalize scanB s = bs at hit hsc hend
 refine sI ?_
 (intros; try refine go_st ?_)
 refine go_rf (α := Nat) (fun k G' L' => L' = [.blk b3 [.int .i64 (nextB s.base (bs.take k))]]) (fun _ _ _ _ => False) (eE) F101.enters (noRegs_blk noRegs_nil)
  (fun i G G' L hg h => h) hit (fun G x args h => by obtain ⟨y, _, _, _, rfl⟩ := h; rfl) rfl ?_ ?_ ?_
 ·rintro yl k i args G' L' hki hgl ⟨x, cs, hx, hbe, rfl⟩ rfl _
  obtain ⟨rfl, hkl⟩ := range_at hki
  obtain ⟨B, d, rfl, -⟩ := hbe
  have hlw := last_i (hsc.ok x (List.mem_of_getElem? hx))
  unfold cellH
  refine sI ?_
  intros; refine gr 0 0 ?_; refine sJ c68r3.eq_1 ?_
  intro bb
  refine go_nil (rnd_a ?_)
  intros; refine gr 12 14 ?_; refine sJ2 c68r4.eq_1 @hlw ?_
  refine stX_blk [_] [] rfl (by simp) ⟨rfl, rfl⟩ ?_
  refine sI ?_
  (intros; try refine go_st ?_)
  refine go_nil (rnd_n [.blk b3 [.int .i64 (x.last + 1)]] (.cons _ (List.Sublist.refl _)) (noRegs_blk noRegs_nil) ?_)
  rw [nextB_at s.base hx]
 ·rintro G' L' dd hgl rfl _
  rw [List.length_range, List.take_length, ← hend]
  intros; refine gr 14 15 ?_; refine sJ c68r5.eq_1 ?_
  refine ⟨_, ldN_blk (.head _) rfl, ?_⟩
  refine sI ?_
  intros; refine rV ?_; simp only [push_cast, Nat.reduceBEq]
 ·rintro ex i G' L' d _ _ h
  exact h.elim
end Go.Proofs.YtppgnokhdpaljaaGreat
namespace Go.Proofs.YtppgnokhdpaljaaGreat
open Go Go.Kx Go.RowKit
theorem opens_seg (W : World) : Opens Tryz.prog W 55 (SE (allG W)) := fun H enc fuel cs x hx => by
 obtain ⟨hl, hf⟩ := opens_fields Tryz.underlying55 (by kernel_rfl) (by kernel_rfl) hx
 obtain ⟨v0, _, _, c0, t0⟩ := hf 0 _ rfl
 obtain ⟨v1, _, _, c1, t1⟩ := hf 1 _ rfl
 obtain ⟨n0, e0, w0⟩ := (opens_int Tryz.underlying3).at_ t0
 obtain ⟨n1, A, c, e1, w1⟩ := (opens_bytes W).at_ t1
 cases e0; cases e1
 refine ⟨⟨n0, n1⟩, A, c, ?_, ⟨A, c, rfl, w1⟩, wf_i64 w0⟩
 match cs, hl with
 | [_, _], _ => cases c0; cases c1; rfl
end Go.Proofs.YtppgnokhdpaljaaGreat
namespace Go.Proofs.YtppgnokhdpaljaaGreat
open Go Go.Kx
theorem F90 : Fun Tryz.prog 90 13 v90 c90 o90 := Fun.mkA Tryz.func90 Tryz.ntmps90
theorem F80 : Fun Tryz.prog 80 9 v80 c80 o80 := Fun.mkA Tryz.func80 Tryz.ntmps80
theorem F81 : Fun Tryz.prog 81 9 v81 c81 o81 := Fun.mkA Tryz.func81 Tryz.ntmps81
theorem F83 : Fun Tryz.prog 83 10 v83 c83 o83 := Fun.mkA Tryz.func83 Tryz.ntmps83
theorem F94 : Fun Tryz.prog 94 27 v94 c94 o94 := Fun.mkA Tryz.func94 Tryz.ntmps94
theorem F82 : Fun Tryz.prog 82 36 v82 c82 o82 := Fun.mkA Tryz.func82 Tryz.ntmps82
theorem ownK_sl {α : Type} {P : Program} {f : FuncId} {args : Array Value} {G : Nat → Option Obj} {E : α → List Value → Prop} {et sz : Nat} {zs : List α} (hf : FnO P f args G [] (fun _ L' r => OwnL E et sz zs L' r)) :
  FnO P f args G [] (fun _ L' r => ∃ A c ys, r = .slice A zs.length c ∧ (zs.length ≤ c ∧ c ≤ maxLen) ∧ Cells E sz zs ys ∧ L' = [.row r et sz zs.length ys]) := fun L D =>
 (hf L D).gx fun v h' ⟨G', L', he, hg, ys, hc, hL⟩ => by
  subst he hL
  exact (gx_knowS (.head _)).mono fun h' ⟨h1, A, c, h2, h3, h4⟩ => ⟨G', _, h1, hg, A, c, ys, h2, ⟨h3, h4⟩, hc, rfl⟩
def noneS : Sg := ⟨0, []⟩
def OwnSg (s : Sg) (L' : List Kx.Item) (r : Value) : Prop := ∃ u zc, r = .agg #[.int .i64 s.base, u] ∧ L' = [.row u 5 1 s.bytes.length zc] ∧ Cells UE 1 s.bytes zc
def OwnSE (p : Sg × Int) (L' : List Kx.Item) (r : Value) : Prop := ∃ u zc, r = .tuple #[.agg #[.int .i64 p.1.base, u], .int .i64 p.2] ∧ L' = [.row u 5 1 p.1.bytes.length zc] ∧ Cells UE 1 p.1.bytes zc
def limO (n : Int) : Bool := decide (1 ≤ n) && decide (n ≤ 4096)
theorem based_ok (n : Int) (G : Nat → Option Obj) : FnS Tryz.prog 80 #[.int .i64 n] G (.bool (inO n)) := by
 refine F80.fnS (by simp) (go_of ?_)
 unfold c80
 intros; refine gr 0 0 ?_; refine sJ c80r0.eq_1 ?_
 intros; refine gr 3 9 ?_; refine sJ c80r1.eq_1 ?_
 refine gd (fun h => ?_) (fun h => ?_)
 ·have h := of_decide_eq_true h
  refine sI ?_
  intros; refine rV ?_; simp only [push_cast, Nat.reduceBEq]
  rw [inO, decide_eq_true h, Bool.true_and]
 ·have h := of_decide_eq_false h
  refine sI ?_
  intros; refine rV ?_; simp only [push_cast, Nat.reduceBEq]
  rw [inO, decide_eq_false h, Bool.false_and]
theorem limited_ok (n : Int) (G : Nat → Option Obj) : FnS Tryz.prog 81 #[.int .i64 n] G (.bool (limO n)) := by
 refine F81.fnS (by simp) (go_of ?_)
 unfold c81
 intros; refine gr 0 0 ?_; refine sJ c81r0.eq_1 ?_
 intros; refine gr 3 9 ?_; refine sJ c81r1.eq_1 ?_
 refine gd (fun h => ?_) (fun h => ?_)
 ·have h := of_decide_eq_true h
  refine sI ?_
  intros; refine rV ?_; simp only [push_cast, Nat.reduceBEq]
  rw [limO, decide_eq_true h, Bool.true_and]
 ·have h := of_decide_eq_false h
  refine sI ?_
  intros; refine rV ?_; simp only [push_cast, Nat.reduceBEq]
  rw [limO, decide_eq_false h, Bool.false_and]
def newS (base : Int) : Sg × Int := if inO base = true then (⟨base, []⟩, 0) else (noneS, 1)
theorem New_ok (base : Int) (G : Nat → Option Obj) : FnO Tryz.prog 83 #[.int .i64 base] G [] (fun _ L' r => OwnSE (newS base) L' r) := by
 refine F83.fnO (by simp) noRegs_nil (go_of ?_)
 unfold c83
 intros; refine gr 0 0 ?_; refine sJ c83r0.eq_1 ?_
 intros; refine gr 4 6 ?_; refine sJ c83r1.eq_1 ?_
 refine (based_ok _ _ _ _).mono ?_; rintro _ _ ⟨rfl, rfl⟩; refine sI ?_
 intros; refine gc ?_; refine sI ?_
 refine gb (fun h => ?_) (fun h => ?_)
 ·have h : ¬ inO base = true := by simpa using h
  intros; refine gr 7 8 ?_; refine sJ c83r2.eq_1 ?_
  (intros; try refine go_st ?_)
  refine go_ghost (ghost_nil none 5 1) ?_
  refine go_ret (retQ_o _ rfl (.cons_cons _ (List.nil_sublist _)) (noRegs_row noRegs_nil) ?_)
  rw [newS, if_neg h]
  exact ⟨_, [], rfl, rfl, .nil⟩
 ·have h : inO base = true := by simpa using h
  intros; refine gN ?_
  intros; refine gr 8 10 ?_; refine sJ c83r3.eq_1 ?_
  (intros; try refine go_st ?_)
  refine go_ghost (ghost_nil none 5 1) ?_
  refine go_ret (retQ_o _ rfl (.cons_cons _ (List.nil_sublist _)) (noRegs_row noRegs_nil) ?_)
  rw [newS, if_pos h]
  exact ⟨_, [], rfl, rfl, .nil⟩
theorem Grow_ok (n : Nat) (G : Nat → Option Obj) (hn : n ≤ 1000000) : FnO Tryz.prog 94 #[.slice none 0 0, .int .i64 (n : Int)] G [] (fun _ L' r => OwnB [] L' r) := by
 refine F94.fnO (by simp) noRegs_nil (go_of ?_)
 unfold c94
 have w1 : IntKind.i64.wrap ((n : Int) - IntKind.i64.wrap (0 - 0)) = (n : Int) := by simp only [IntKind.wrap_i64]; omega
 have h0 : decide ((n : Int) < 0) = false := decide_eq_false (by omega)
 intros; refine gr 0 0 ?_; refine sJ c94r0.eq_1 ?_
 intros; refine gr 5 6 ?_; refine sJ2 c94r1.eq_1 @h0 ?_
 intros; refine gc ?_; refine sI ?_
 intros; refine gN ?_
 intros; refine gr 8 15 ?_; refine sJ2 c94r2.eq_1 @w1 ?_
 intros; refine gr 15 16 ?_; refine sJ c94r3.eq_1 ?_
 intros
 refine go_ghost (ghost_nil none 5 1) ?_
 refine go_cut (fun e h => ∃ A c m zc Lh, e 0 = .slice A 0 c ∧ h = ⟨G, Lh, []⟩ ∧ [Kx.Item.row (.slice A m c) 5 1 m zc].Sublist Lh) ?_ ?_
 ·intros; refine gc ?_; refine sI ?_
  refine gb (fun h1 => ?_) (fun h1 => ?_)
  ·have h1 := of_decide_eq_true h1
   intros; refine gr 17 26 ?_; refine sJ c94r4.eq_1 ?_
   refine ⟨by omega, ?_⟩
   refine ⟨n, ⟨rfl, rfl⟩, ⟨by omega, by omega, by unfold maxLen; omega⟩, ?_⟩
   intro g c zs hg
   refine sI ?_
   refine ⟨by omega, ?_⟩
   refine sI ?_
   (intros; try refine go_st ?_)
   exact go_l ⟨_, c, n, zs, _, rfl, rfl, .cons_cons _ (List.nil_sublist _)⟩
  ·(intros; try refine go_st ?_)
   exact go_l ⟨none, 0, 0, [], _, eE, rfl, List.Sublist.refl _⟩
 rintro e h ⟨A, c, m, zc, Lh, e0, rfl, hsub⟩
 refine go_keep [0] ?_
 refine sJ @e0 ?_
 intros
 intros; try refine go_seq ?_
 refine go_ghost (ghost_sub hsub) ?_
 refine go_ghost (ghost_cut (L1 := []) (L2 := []) (m := 0) (Nat.zero_le _)) ?_
 intros; refine gr 26 27 ?_; refine sJ c94r5.eq_1 ?_
 (intros; try refine go_st ?_)
 refine go_ret (retQ_o _ rfl (List.Sublist.refl _) (noRegs_row noRegs_nil) ?_)
 refine ⟨[], .nil, ?_⟩
 simp
 rfl
theorem ahead_ok (s : Sg) (n : Nat) (cs : List Value) (G : Nat → Option Obj) (hs : SE G s cs) (hb : s.bytes.length ≤ 1000000) (hn : n ≤ s.bytes.length) :
  FnO Tryz.prog 90 #[.agg cs.toArray, .int .i64 (n : Int)] G [] (fun _ L' r => OwnSg ⟨s.base, s.bytes.take n⟩ L' r) := by
 obtain ⟨A, c, rfl, hl, hi⟩ := hs
 refine F90.fnO (by simp) noRegs_nil (go_of ?_)
 have hpre := SlV.pre n hl hn
 obtain ⟨A0, c0, he, h1, h2, h3⟩ := hl
 cases he
 unfold c90 cellS
 intros; refine gr 0 0 ?_; refine sJ c90r0.eq_1 ?_
 (intros; try refine go_st ?_); refine go_y _ (List.Sublist.refl _) (by decide) ?_; refine sJ c90r1.eq_1 ?_
 refine ⟨by omega, ?_⟩
 refine (ownK_sl (Clone_ok _ _ G hpre (by simp; omega)) _ _).mono ?_
 rintro r h' ⟨G1, L', rfl, hg1, A1, c1, ys, rfl, -, hys, rfl⟩
 refine ⟨grow_L hg1 (.cons _ (List.Sublist.refl _)), ?_⟩
 refine sI ?_
 refine sJ c90r2.eq_1 ?_
 (intros; try refine go_st ?_)
 refine go_ret (retQ_o _ rfl (.cons_cons _ (List.nil_sublist _)) (noRegs_row noRegs_nil) ?_)
 exact ⟨_, ys, rfl, rfl, hys⟩
def EBs (G : Nat → Option Obj) (l : List UInt8) (cs : List Value) : Prop := ∃ v, cs = [v] ∧ SB G v l
theorem flat_take {ll : List (List UInt8)} {k : Nat} {l : List UInt8} (h : ll[k]? = some l) : (ll.take (k + 1)).flatten = (ll.take k).flatten ++ l := by
 rw [List.take_add_one, h]
 simp
theorem flat_le (ll : List (List UInt8)) (k : Nat) : (ll.take k).flatten.length ≤ ll.flatten.length := by
 conv => rhs; rw [← List.take_append_drop k ll, List.flatten_append, List.length_append]
 omega
theorem Concat_ok (ll : List (List UInt8)) (v : Value) (G : Nat → Option Obj) (hl : SlV G (EBs G) 1 v ll) (hb : ll.flatten.length ≤ 1000000) : FnO Tryz.prog 82 #[v] G [] (fun _ L' r => OwnB ll.flatten L' r) := by
 obtain ⟨A, c, rfl, hc, hm, hA⟩ := hl
 refine F82.fnO (by simp) noRegs_nil (go_of ?_)
 unfold c82
 intros; refine gr 0 0 ?_; refine sJ c82r0.eq_1 ?_
 intros; refine gr 0 0 ?_; refine sJ c82r1.eq_1 ?_
 intros; refine gr 0 0 ?_; refine sJ c82r2.eq_1 ?_
 intros
 intros; try refine go_seq ?_
 refine go_cut (fun e h => e 3 = .int .i64 ((ll.flatten.length : Nat) : Int) ∧ e 0 = .slice A ll.length c ∧ h = ⟨G, [], []⟩) ?_ ?_
 ·(intros; try refine go_st ?_)
  refine go_loop (fun e h => ∃ k : Nat, k ≤ ll.length ∧ e 11 = .int .i64 k ∧ e 10 = .int .i64 ll.length ∧ e 9 = .slice A ll.length c ∧ e 0 = .slice A ll.length c ∧ e 3 = .int .i64 (((ll.take k).flatten.length : Nat) : Int) ∧ h = ⟨G, [], []⟩) (fun e h => ll.length - iv (e 11)) ?_ ?_
  ·exact ⟨0, Nat.zero_le _, eE, eE, eE, eE, rfl, rfl⟩
  rintro e h ⟨k, hk, e11, e10, e9, e0, e3, rfl⟩
  refine go_keep [0, 3, 9, 10, 11] ?_
  refine sJ5 @e0 @e3 @e9 @e10 @e11 ?_
  intros; refine gr 0 0 ?_; refine sJ c82r3.eq_1 ?_
  intros; refine gc ?_; refine sI ?_
  refine gb (fun ht => ?_) (fun ht => ?_)
  ·have ht : k < ll.length := by have := of_decide_eq_true ht; omega
   have hw := inc_i k c (by omega) hm
   obtain ⟨x, hx⟩ : ∃ x, ll[k]? = some x := ⟨ll[k], List.getElem?_eq_getElem (by omega)⟩
   have h1 := flat_take hx
   have h2 := flat_le ll (k + 1)
   have h3 : (ll.take (k + 1)).flatten.length = (ll.take k).flatten.length + x.length := by rw [h1, List.length_append]
   generalize hn1 : (ll.take (k + 1)).flatten.length = n1 at *
   generalize (ll.take k).flatten.length = n0 at *
   have hw2 : IntKind.i64.wrap ((n0 : Int) + (x.length : Int)) = (n1 : Int) := by rw [w64_id] <;> omega
   have hneg : decide ((n1 : Int) < 0) = false := decide_eq_false (by omega)
   intros; refine gN ?_
   intros; refine gr 13 15 ?_; refine sJ c82r4.eq_1 ?_
   refine hA.x_l1 hx rfl rfl ?_
   rintro a1 ha1 u ⟨u', hu, B, d, rfl, -⟩
   cases hu
   refine sI ?_
   intros; refine gr 15 19 ?_; refine sJ2 c82r5.eq_1 @hw2 ?_
   intros; refine gr 19 20 ?_; refine sJ2 c82r6.eq_1 @hneg ?_
   intros; refine gc ?_; refine sI ?_
   intros; refine gN ?_
   intros; refine gr 22 23 ?_; refine sJ2 c82r7.eq_1 @hw ?_
   (intros; try refine go_st ?_)
   refine go_l ⟨⟨k + 1, by omega, eE, eE, eE, eE, (eJ @hn1), rfl⟩, ?_⟩
   refine sI ?_
   omega
  ·have ht : k = ll.length := by have := of_decide_eq_false ht; omega
   subst ht
   have htk : ll.take ll.length = ll := List.take_length
   refine go_exit ?_
   refine sI ?_
   intros; refine gN ?_
   exact go_l ⟨(eJ @htk), eE, rfl⟩
 rintro e h ⟨e3, e0, rfl⟩
 refine go_keep [0, 3] ?_
 refine sJ2 @e0 @e3 ?_
 intros
 intros; refine gr 23 25 ?_; refine sJ c82r8.eq_1 ?_
 refine (ownK_sl (Grow_ok ll.flatten.length G hb) _ []).mono ?_
 rintro r h' ⟨G1, L', rfl, hg1, A1, c1, ys, rfl, -, hys, rfl⟩
 refine sI ?_
 intros; refine gr 0 0 ?_; refine sJ c82r9.eq_1 ?_
 intros
 have hA1 := hA.le hg1 (E' := EBs G1) fun _ _ ⟨u, h1, h2⟩ => ⟨u, h1, SB.le h2 hg1⟩
 refine go_cut (fun e h => ∃ u zc, Cells UE 1 ll.flatten zc ∧ e 6 = u ∧ h = ⟨G1, [.row u 5 1 ll.flatten.length zc], []⟩) ?_ ?_
 ·(intros; try refine go_st ?_)
  refine go_loop (fun e h => ∃ (k : Nat) (u : Value) (zc : List Value), (k ≤ ll.length ∧ Cells UE 1 (ll.take k).flatten zc) ∧ e 27 = .int .i64 k ∧ e 26 = .int .i64 ll.length ∧ e 25 = .slice A ll.length c ∧ e 6 = u ∧ h = ⟨G1, [.row u 5 1 (ll.take k).flatten.length zc], []⟩) (fun e h => ll.length - iv (e 27)) ?_ ?_
  ·exact ⟨0, _, ys, ⟨Nat.zero_le _, hys⟩, eE, eE, eE, eE, rfl⟩
  rintro e h ⟨k, u, zc, ⟨hk, hzc⟩, e27, e26, e25, e6, rfl⟩
  refine go_keep [6, 25, 26, 27] ?_
  refine sJ4 @e6 @e25 @e26 @e27 ?_
  intros; refine gr 0 0 ?_; refine sJ c82r10.eq_1 ?_
  intros; refine gc ?_; refine sI ?_
  refine gb (fun ht => ?_) (fun ht => ?_)
  ·have ht : k < ll.length := by have := of_decide_eq_true ht; omega
   have hw := inc_i k c (by omega) hm
   obtain ⟨x, hx⟩ : ∃ x, ll[k]? = some x := ⟨ll[k], List.getElem?_eq_getElem (by omega)⟩
   have h1 := flat_take hx
   have h2 := flat_le ll (k + 1)
   have h3 : (ll.take (k + 1)).flatten.length = (ll.take k).flatten.length + x.length := by rw [h1, List.length_append]
   intros; refine gN ?_
   intros; refine gr 29 31 ?_; refine sJ c82r11.eq_1 ?_
   refine hA1.x_l1 hx rfl rfl ?_
   rintro a1 ha1 u1 ⟨u', hu, hsb⟩
   cases hu
   refine sI ?_
   intros; refine gr 31 34 ?_; refine sJ c82r12.eq_1 ?_
   refine apX_v (L1 := []) (.inl rfl) hsb rfl UE1 (by unfold maxLen; omega) fun ys1 A2 c2 hc2 => ?_
   have hh := hzc.app hc2
   rw [← h1] at hh
   rw [← h3]
   refine sI ?_
   intros; refine gN ?_
   intros; refine gr 34 35 ?_; refine sJ2 c82r13.eq_1 @hw ?_
   (intros; try refine go_st ?_)
   refine go_l ⟨⟨k + 1, _, _, ⟨by omega, hh⟩, eE, eE, eE, eE, rfl⟩, ?_⟩
   refine sI ?_
   omega
  ·have ht : k = ll.length := by have := of_decide_eq_false ht; omega
   subst ht
   rw [List.take_length] at hzc ⊢
   refine go_exit ?_
   refine sI ?_
   intros; refine gN ?_
   exact go_l ⟨u, zc, hzc, eE, rfl⟩
 rintro e h ⟨u, zc, hzc, e6, rfl⟩
 refine go_keep [6] ?_
 refine sJ @e6 ?_
 intros
 intros; refine gr 35 36 ?_; refine sJ c82r14.eq_1 ?_
 (intros; try refine go_st ?_)
 refine go_ret (retQ_o _ rfl (List.Sublist.refl _) (noRegs_row noRegs_nil) ?_)
 exact ⟨zc, hzc, rfl⟩
theorem F50 : Fun Tryz.prog 50 69 v50 c50 o50 := Fun.mkA Tryz.func50 Tryz.ntmps50
def appS (s : Sg) (x : Batch) (limit : Int) : Sg × Int :=
 if goodB s = s.bytes.length ∧ inO s.base = true ∧ limO limit = true then
  if errB x = 0 then
   if x.base < endB s then (noneS, 71)
   else if limit < ((s.bytes.length + (bytesB x).length : Nat) : Int) then (noneS, 70)
   else (⟨s.base, s.bytes ++ bytesB x⟩, 0)
  else (noneS, errB x)
 else (noneS, 1)
theorem appS_1 {s : Sg} {x : Batch} {limit : Int} (h : ¬ (goodB s = s.bytes.length ∧ inO s.base = true ∧ limO limit = true)) : appS s x limit = (noneS, 1) := if_neg h
theorem appS_e {s : Sg} {x : Batch} {limit : Int} (h : goodB s = s.bytes.length ∧ inO s.base = true ∧ limO limit = true) (h1 : ¬ errB x = 0) : appS s x limit = (noneS, errB x) := by rw [appS, if_pos h, if_neg h1]
theorem appS_o {s : Sg} {x : Batch} {limit : Int} (h : goodB s = s.bytes.length ∧ inO s.base = true ∧ limO limit = true) (h1 : errB x = 0) (h2 : x.base < endB s) : appS s x limit = (noneS, 71) := by rw [appS, if_pos h, if_pos h1, if_pos h2]
theorem appS_r {s : Sg} {x : Batch} {limit : Int} (h : goodB s = s.bytes.length ∧ inO s.base = true ∧ limO limit = true) (h1 : errB x = 0) (h2 : ¬ x.base < endB s) (h3 : limit < ((s.bytes.length + (bytesB x).length : Nat) : Int)) : appS s x limit = (noneS, 70) := by rw [appS, if_pos h, if_pos h1, if_neg h2, if_pos h3]
theorem appS_0 {s : Sg} {x : Batch} {limit : Int} (h : goodB s = s.bytes.length ∧ inO s.base = true ∧ limO limit = true) (h1 : errB x = 0) (h2 : ¬ x.base < endB s) (h3 : ¬ limit < ((s.bytes.length + (bytesB x).length : Nat) : Int)) : appS s x limit = (⟨s.base, s.bytes ++ bytesB x⟩, 0) := by rw [appS, if_pos h, if_pos h1, if_neg h2, if_neg h3]
theorem goodB_le (s : Sg) : goodB s ≤ s.bytes.length := by
 obtain ⟨r, h⟩ := scan_spec s
 exact h.len.2
theorem Append_ok (s : Sg) (x : Batch) (limit : Int) (cs ds : List Value) (G : Nat → Option Obj) (hs : SE G s cs) (hb : s.bytes.length ≤ 100000) (hx : BE G x ds) (hi : I64 limit) :
  FnO Tryz.prog 50 #[.agg cs.toArray, .agg ds.toArray, .int .i64 limit] G [] (fun _ L' r => OwnSE (appS s x limit) L' r) := by
 have hscan := Scan_ok s cs G hs (by omega)
 have hput := BPut_ok x ds G hx
 have hs0 := hs
 have hx0 := hx
 obtain ⟨A, c, rfl, hl, hib⟩ := hs
 obtain ⟨B, d, rfl, -⟩ := hx
 have hgl := goodB_le s
 refine F50.fnO (by simp) noRegs_nil (go_of ?_)
 unfold c50
 unfold cellS at hscan hs0 ⊢
 unfold cellH at hput hx0 ⊢
 intros; refine gr 0 0 ?_; refine sJ c50r0.eq_1 ?_
 intros; refine gr 12 17 ?_; refine sJ c50r1.eq_1 ?_
 refine (hscan _ _).mono ?_
 rintro r h' ⟨G1, L', rfl, hg1, u, zc, rfl, -, rfl⟩
 refine sI ?_
 intros
 refine go_ghost (ghost_sub (.cons _ (List.Sublist.refl _))) ?_
 intros; try refine go_seq ?_
 have hbad : ∀ (fr : List Td) (e : Env) (X : List Kx.Item) (Y : List Value), ¬ (goodB s = s.bytes.length ∧ inO s.base = true ∧ limO limit = true) → go none Tryz.prog 69 v50.1 v50.2 (retQ o50 fun v h => OwnSE (appS s x limit) h.L v) (Td.s ((SC.reg false c50r3).seq .ret) :: fr) e ⟨G1, .reg 6 [.int .i64 0, .slice none 0 0] :: X, []⟩ := fun fr e X Y hn => by
  intros; refine gr 33 34 ?_; refine sJ c50r3.eq_1 ?_
  (intros; try refine go_st ?_)
  refine go_ghost (ghost_nil none 5 1) ?_
  refine go_ret (retQ_o _ rfl (.cons_cons _ (List.nil_sublist _)) (noRegs_row noRegs_nil) ?_)
  rw [appS_1 hn]
  exact ⟨_, [], rfl, rfl, .nil⟩
 intros; refine gr 17 32 ?_; refine sJ c50r2.eq_1 ?_
 refine gd (fun k1 => ?_) (fun k1 => ?_)
 ·refine sI ?_
  intros; refine gc ?_; refine sI ?_
  exact hbad _ _ _ [] fun h => of_decide_eq_true k1 (by rw [h.1])
 have k1 : goodB s = s.bytes.length := by have := of_decide_eq_false k1; omega
 refine sI ?_
 refine (based_ok _ _ _ _).mono ?_; rintro _ _ ⟨rfl, rfl⟩; refine sI ?_
 refine gd (fun k2 => ?_) (fun k2 => ?_)
 ·refine sI ?_
  intros; refine gc ?_; refine sI ?_
  exact hbad _ _ _ [] fun h => by rw [h.2.1] at k2; cases k2
 have k2 : inO s.base = true := by simpa using k2
 refine sI ?_
 refine (limited_ok _ _ _ _).mono ?_; rintro _ _ ⟨rfl, rfl⟩; refine sI ?_
 intros; refine gc ?_; refine sI ?_
 refine gb (fun k3 => ?_) (fun k3 => ?_)
 ·exact hbad _ _ _ [] fun h => by rw [h.2.2] at k3; cases k3
 have k3 : limO limit = true := by simpa using k3
 clear hbad
 have hok : goodB s = s.bytes.length ∧ inO s.base = true ∧ limO limit = true := ⟨k1, k2, k3⟩
 intros; refine gN ?_
 have hput := BPut_ok x _ G1 (BE.le hg1 hx0)
 intros; refine gr 34 39 ?_; refine sJ c50r4.eq_1 ?_
 refine (hput _ _).mono ?_
 rintro r h' ⟨G2, L', rfl, hg2, w, rfl, ys, hys, rfl⟩
 refine sI ?_
 intros; try refine go_seq ?_
 refine go_gx (gx_slv_at [] _ (by decide) hys) ?_
 rintro h' ⟨G3, rfl, hg3, hv3⟩
 have hg03 := hg1.trans (hg2.trans hg3)
 by_cases he : errB x = 0
 rotate_left
 ·rw [putB_n he] at hv3 ⊢
  intros; refine gr 40 42 ?_; refine sJ c50r5.eq_1 ?_
  intros; refine gc ?_; refine sI ?_
  refine gb (fun k4 => ?_) (fun k4 => absurd (of_decide_eq_false k4) (by simpa using he))
  intros; refine gr 42 44 ?_; refine sJ c50r6.eq_1 ?_
  (intros; try refine go_st ?_)
  refine go_ghost (ghost_nil none 5 1) ?_
  refine go_ret (retQ_o _ rfl (.cons_cons _ (List.nil_sublist _)) (noRegs_row noRegs_nil) ?_)
  rw [appS_e hok he]
  exact ⟨_, [], rfl, rfl, .nil⟩
 rw [putB_0 he] at hv3 ⊢
 have hv3 : SB G3 w (bytesB x) := hv3
 have hbl := (errB_ok he).2
 have hz : decide ((0 : Int) ≠ 0) = false := by decide
 intros; refine gr 40 42 ?_; refine sJ2 c50r5.eq_1 @hz ?_
 intros; refine gc ?_; refine sI ?_
 intros; refine gN ?_
 (intros; try refine go_st ?_); refine go_x _ (List.Sublist.refl _) (by decide) ?_; refine sJ c50r7.eq_1 ?_
 refine (End_ok s _ G3 (SE.le hg03 hs0) (by omega) _ _).mono ?_; rintro _ _ ⟨rfl, rfl⟩; refine sI ?_
 intros; refine gc ?_; refine sI ?_
 refine gb (fun k5 => ?_) (fun k5 => ?_)
 ·have k5 := of_decide_eq_true k5
  intros; refine gr 50 51 ?_; refine sJ c50r8.eq_1 ?_
  (intros; try refine go_st ?_)
  refine go_ghost (ghost_nil none 5 1) ?_
  refine go_ret (retQ_o _ rfl (.cons_cons _ (List.nil_sublist _)) (noRegs_row noRegs_nil) ?_)
  rw [appS_o hok he k5]
  exact ⟨_, [], rfl, rfl, .nil⟩
 have k5 := of_decide_eq_false k5
 have hw : IntKind.i64.wrap ((s.bytes.length : Int) + ((bytesB x).length : Int)) = ((s.bytes.length + (bytesB x).length : Nat) : Int) := by rw [w64_id] <;> omega
 have hsb3 := hv3
 obtain ⟨A3, c3, rfl, -⟩ := hv3
 intros; refine gr 53 60 ?_; refine sJ2 c50r9.eq_1 @hw ?_
 intros; refine gc ?_; refine sI ?_
 refine gb (fun k6 => ?_) (fun k6 => ?_)
 ·have k6 := of_decide_eq_true k6
  intros; refine gr 60 61 ?_; refine sJ c50r10.eq_1 ?_
  (intros; try refine go_st ?_)
  refine go_ghost (ghost_nil none 5 1) ?_
  refine go_ret (retQ_o _ rfl (.cons_cons _ (List.nil_sublist _)) (noRegs_row noRegs_nil) ?_)
  rw [appS_r hok he k5 k6]
  exact ⟨_, [], rfl, rfl, .nil⟩
 have k6 := of_decide_eq_false k6
 have h0 := appS_0 hok he k5 k6
 have hll : Cells (EBs G3) 1 [s.bytes, bytesB x] [.slice A s.bytes.length c, .slice A3 (bytesB x).length c3] := .cons (cs := [_]) ⟨_, rfl, SB.le hl hg03⟩ rfl (.one ⟨_, rfl, hsb3⟩ rfl)
 intros; refine gN ?_
 (intros; try refine go_st ?_); refine go_y _ (List.Sublist.refl _) (by decide) ?_; refine sJ c50r11.eq_1 ?_
 intro bk hbk
 refine ⟨grow_L (fun _ _ h => h) (.cons _ (List.Sublist.refl _)), ?_⟩
 refine callsH_gx F82.enters (gx_slv_at [] _ (by decide) hll) ?_
 rintro h' ⟨G5, rfl, hg5, hv5⟩
 refine (ownK_sl (Concat_ok [s.bytes, bytesB x] _ G5 (hv5.le (.refl _) fun _ _ ⟨v, h1, h2⟩ => ⟨v, h1, SB.le h2 hg5⟩) (by simp; omega)) _ _).mono ?_
 rintro r h' ⟨G6, L', rfl, hg6, A6, c6, zc6, rfl, -, hzc6, rfl⟩
 have hfl : [s.bytes, bytesB x].flatten = s.bytes ++ bytesB x := by simp
 rw [hfl] at hzc6 ⊢
 refine ⟨grow_L (hg5.trans hg6) (.cons _ (List.Sublist.refl _)), ?_⟩
 refine sI ?_
 refine sJ c50r12.eq_1 ?_
 (intros; try refine go_st ?_)
 refine go_ret (retQ_o _ rfl (.cons_cons _ (List.nil_sublist _)) (noRegs_row noRegs_nil) ?_)
 rw [h0]
 exact ⟨_, zc6, rfl, rfl, hzc6⟩
theorem F53 : Fun Tryz.prog 53 44 v53 c53 o53 := Fun.mkA Tryz.func53 Tryz.ntmps53
theorem F71 : Fun Tryz.prog 71 19 v71 c71 o71 := Fun.mkA Tryz.func71 Tryz.ntmps71
theorem F61 : Fun Tryz.prog 61 20 v61 c61 o61 := Fun.mkA Tryz.func61 Tryz.ntmps61
def SegR (p : Sg × Int) (G : Nat → Option Obj) (r : Value) : Prop := ∃ A c, r = .tuple #[.agg #[.int .i64 p.1.base, .slice A p.1.bytes.length c], .int .i64 p.2] ∧ SB G (.slice A p.1.bytes.length c) p.1.bytes
theorem ownSE_sl {P : Program} {f : FuncId} {args : Array Value} {G : Nat → Option Obj} {p : Sg × Int} (hf : FnO P f args G [] (fun _ L' r => OwnSE p L' r)) :
  FnO P f args G [] (fun _ L' r => ∃ A c zc, r = .tuple #[.agg #[.int .i64 p.1.base, .slice A p.1.bytes.length c], .int .i64 p.2] ∧ (p.1.bytes.length ≤ c ∧ c ≤ maxLen) ∧ L' = [.row (.slice A p.1.bytes.length c) 5 1 p.1.bytes.length zc] ∧ Cells UE 1 p.1.bytes zc) := fun L D =>
 (hf L D).gx fun v h' ⟨G', L', he, hg, u, zc, h1, h2, h3⟩ => by
  subst he h2
  refine (gx_knowS (.head _)).mono fun h' ⟨e1, A, c, e2, e3, e4⟩ => ?_
  subst e2
  exact ⟨G', _, e1, hg, A, c, zc, h1, ⟨e3, e4⟩, rfl, h3⟩
theorem ownSE_d {P : Program} {f : FuncId} {args : Array Value} {G : Nat → Option Obj} {p : Sg × Int} (hf : FnO P f args G [] (fun _ L' r => OwnSE p L' r)) : FnD P f args G (SegR p) :=
 FnO.fnD (L1 := []) (ownSE_sl hf) fun G' L' v ⟨A, c, zc, h1, _, h2, h3⟩ _ L D => by
  subst h2
  exact (gx_slv (by decide) h3).mono fun h' ⟨G2, e1, e2, e3⟩ => ⟨G2, e1, e2, A, c, h1, e3⟩
theorem ownSg_sl {P : Program} {f : FuncId} {args : Array Value} {G : Nat → Option Obj} {s : Sg} (hf : FnO P f args G [] (fun _ L' r => OwnSg s L' r)) :
  FnO P f args G [] (fun _ L' r => ∃ A c zc, r = .agg #[.int .i64 s.base, .slice A s.bytes.length c] ∧ (s.bytes.length ≤ c ∧ c ≤ maxLen) ∧ L' = [.row (.slice A s.bytes.length c) 5 1 s.bytes.length zc] ∧ Cells UE 1 s.bytes zc) := fun L D =>
 (hf L D).gx fun v h' ⟨G', L', he, hg, u, zc, h1, h2, h3⟩ => by
  subst he h2
  refine (gx_knowS (.head _)).mono fun h' ⟨e1, A, c, e2, e3, e4⟩ => ?_
  subst e2
  exact ⟨G', _, e1, hg, A, c, zc, h1, ⟨e3, e4⟩, rfl, h3⟩
def ofL (limit : Int) : Sg → List Batch → Sg × Int
 | s, [] => (s, 0)
 | s, b :: bs => if (appS s b limit).2 = 0 then ofL limit (appS s b limit).1 bs else (noneS, (appS s b limit).2)
def ofS (base : Int) (l : List Batch) (limit : Int) : Sg × Int := if (newS base).2 = 0 ∧ limO limit = true then ofL limit (newS base).1 l else (noneS, 1)
theorem appS_ok {s : Sg} {x : Batch} {limit : Int} (h : (appS s x limit).2 = 0) : (goodB s = s.bytes.length ∧ inO s.base = true ∧ limO limit = true) ∧ errB x = 0 ∧ endB s ≤ x.base ∧ ((s.bytes.length + (bytesB x).length : Nat) : Int) ≤ limit ∧ appS s x limit = (⟨s.base, s.bytes ++ bytesB x⟩, 0) := by
 unfold appS at h ⊢
 split at h <;> rename_i h1
 ·split at h <;> rename_i h2
  ·split at h <;> rename_i h3
   ·cases h
   ·split at h <;> rename_i h4
    ·cases h
    ·exact ⟨h1, h2, by omega, by omega, by rw [if_pos h1, if_pos h2, if_neg h3, if_neg h4]⟩
  ·exact absurd h h2
 ·cases h
theorem appS_none {s : Sg} {x : Batch} {limit : Int} (h : ¬ (appS s x limit).2 = 0) : (appS s x limit).1 = noneS := by
 unfold appS at h ⊢
 split at h <;> rename_i h1
 ·split at h <;> rename_i h2
  ·split at h <;> rename_i h3
   ·rw [if_pos h1, if_pos h2, if_pos h3]
   ·split at h <;> rename_i h4
    ·rw [if_pos h1, if_pos h2, if_neg h3, if_pos h4]
    ·exact absurd rfl h
  ·rw [if_pos h1, if_neg h2]
 ·rw [if_neg h1]
theorem limO_iff {n : Int} : limO n = true ↔ 1 ≤ n ∧ n ≤ 4096 := by simp [limO]
theorem noneS_seg {p : Int} {G : Nat → Option Obj} : SegR (noneS, p) G (.tuple #[.agg #[.int .i64 0, .slice none 0 0], .int .i64 p]) := ⟨none, 0, rfl, SB.nil⟩
theorem Of_ok (base limit : Int) (l : List Batch) (v : Value) (G : Nat → Option Obj) (hl : SlV G (BE G) 10 v l) (hbi : I64 base) (hli : I64 limit) : FnD Tryz.prog 53 #[.int .i64 base, v, .int .i64 limit] G (SegR (ofS base l limit)) := by
 obtain ⟨A, c, rfl, hc, hm, hA⟩ := hl
 refine F53.fnD (by simp) (go_of ?_)
 unfold c53
 intros; refine gr 0 0 ?_; refine sJ c53r0.eq_1 ?_
 intros; refine gr 12 17 ?_; refine sJ c53r1.eq_1 ?_
 refine (ownSE_d (New_ok base G) _ _).mono ?_
 rintro r h' ⟨G1, rfl, hg1, A1, c1, rfl, hs1⟩
 refine sI ?_
 have hbad : ∀ (fr : List Td) (e : Env) (X : List Kx.Item), ¬ ((newS base).2 = 0 ∧ limO limit = true) → go none Tryz.prog 44 v53.1 v53.2 (retQ o53 fun v h => SegR (ofS base l limit) h.G v) (Td.s ((SC.reg false c53r3).seq .ret) :: fr) e ⟨G1, [.reg 8 [.int .i64 (newS base).1.base, .slice A1 (newS base).1.bytes.length c1], .reg 6 [.int .i64 0, .slice none 0 0]], []⟩ := fun fr e X hn => by
  intros; refine gr 24 25 ?_; refine sJ c53r3.eq_1 ?_
  intros; refine rV ?_; simp only [push_cast, Nat.reduceBEq]
  rw [ofS, if_neg hn]
  exact noneS_seg
 intros; refine gr 17 23 ?_; refine sJ c53r2.eq_1 ?_
 refine gd (fun k1 => ?_) (fun k1 => ?_)
 ·refine sI ?_
  intros; refine gc ?_; refine sI ?_
  exact hbad _ _ [] fun h => of_decide_eq_true k1 h.1
 have k1 : (newS base).2 = 0 := by simpa using k1
 refine sI ?_
 refine (limited_ok _ _ _ _).mono ?_; rintro _ _ ⟨rfl, rfl⟩; refine sI ?_
 intros; refine gc ?_; refine sI ?_
 refine gb (fun k2 => ?_) (fun k2 => ?_)
 ·exact hbad _ _ [] fun h => by rw [h.2] at k2; cases k2
 have k2 : limO limit = true := by simpa using k2
 clear hbad
 have hlim := limO_iff.1 k2
 have hnew : newS base = (⟨base, []⟩, 0) := by
  unfold newS at k1 ⊢
  split at k1
  ·rename_i h; rw [if_pos h]
  ·cases k1
 have hof : ofS base l limit = ofL limit ⟨base, []⟩ l := by rw [ofS, if_pos ⟨k1, k2⟩, hnew]
 rw [hnew] at hs1 ⊢
 rw [hof]
 clear hof hnew k1
 dsimp only at hs1 ⊢
 intros; refine gN ?_
 intros; refine gr 0 0 ?_; refine sJ c53r4.eq_1 ?_
 intros
 refine go_cut (fun e h => ∃ (s : Sg) (G' : Nat → Option Obj) (A' : Option Addr) (c' : Nat), (Gle G1 G' ∧ SB G' (.slice A' s.bytes.length c') s.bytes ∧ ofL limit ⟨base, []⟩ l = (s, 0)) ∧ h = ⟨G', [.reg 8 [.int .i64 s.base, .slice A' s.bytes.length c'], .reg 6 [.int .i64 0, .slice none 0 0]], []⟩) ?_ ?_
 ·(intros; try refine go_st ?_)
  refine go_loop (fun e h => ∃ (k : Nat) (s : Sg) (G' : Nat → Option Obj) (A' : Option Addr) (c' : Nat), (k ≤ l.length ∧ Gle G1 G' ∧ SB G' (.slice A' s.bytes.length c') s.bytes ∧ s.base = base ∧ s.bytes.length ≤ 4096 ∧ ofL limit ⟨base, []⟩ l = ofL limit s (l.drop k)) ∧ e 27 = .int .i64 k ∧ e 26 = .int .i64 l.length ∧ e 25 = .slice A l.length c ∧ e 2 = .int .i64 limit ∧ h = ⟨G', [.reg 8 [.int .i64 s.base, .slice A' s.bytes.length c'], .reg 6 [.int .i64 0, .slice none 0 0]], []⟩) (fun e h => l.length - iv (e 27)) ?_ ?_
  ·exact ⟨0, ⟨base, []⟩, G1, A1, c1, ⟨Nat.zero_le _, .refl _, hs1, rfl, by simp, rfl⟩, eE, eE, eE, eE, rfl⟩
  rintro e h ⟨k, s, G2, A2, c2, ⟨hk, hg2, hs2, hsb, hsl, hof⟩, e27, e26, e25, e2, rfl⟩
  refine go_keep [2, 25, 26, 27] ?_
  refine sJ4 @e2 @e25 @e26 @e27 ?_
  intros; refine gr 0 0 ?_; refine sJ c53r5.eq_1 ?_
  intros; refine gc ?_; refine sI ?_
  refine gb (fun ht => ?_) (fun ht => ?_)
  ·have ht : k < l.length := by have := of_decide_eq_true ht; omega
   have hw := inc_i k c (by omega) hm
   have hg02 := hg1.trans hg2
   obtain ⟨x, hx⟩ : ∃ x, l[k]? = some x := ⟨l[k], List.getElem?_eq_getElem (by omega)⟩
   have hA2 := hA.le hg02 (E' := BE G) fun _ _ h => h
   have hof2 : ofL limit s (l.drop k) = if (appS s x limit).2 = 0 then ofL limit (appS s x limit).1 (l.drop (k + 1)) else (noneS, (appS s x limit).2) := by
    obtain ⟨h1, h2⟩ := List.getElem?_eq_some_iff.1 hx
    rw [List.drop_eq_getElem_cons h1, h2, ofL]
   rw [hof2] at hof
   intros; refine gN ?_
   intros; refine gr 29 31 ?_; refine sJ c53r6.eq_1 ?_
   refine hA2.x_ld hx rfl rfl ?_
   rintro a1 ha1 cs hbe
   have hbe := BE.le hg02 hbe
   have happ := Append_ok s x limit _ cs G2 ⟨A2, c2, rfl, hs2, by rw [hsb]; exact hbi⟩ (by omega) hbe hli
   obtain ⟨B, d, rfl, -⟩ := hbe
   unfold cellH cellS at happ
   unfold cellH
   refine sI ?_
   intros; refine gr 31 38 ?_; refine sJ c53r7.eq_1 ?_
   refine (ownSE_d happ _ _).mono ?_
   rintro r h' ⟨G3, rfl, hg3, A3, c3, rfl, hs3⟩
   have hok := @appS_ok s x limit
   have hno := @appS_none s x limit
   generalize appS s x limit = q at hok hno hs3 hof
   obtain ⟨s3, er⟩ := q
   dsimp only at hok hno hs3 hof
   refine sI ?_
   intros; refine gr 38 39 ?_; refine sJ c53r8.eq_1 ?_
   intros; refine gc ?_; refine sI ?_
   refine gb (fun k3 => ?_) (fun k3 => ?_)
   ·have k3 := of_decide_eq_true k3
    intros; refine gr 40 42 ?_; refine sJ c53r9.eq_1 ?_
    intros; refine rV ?_; simp only [push_cast, Nat.reduceBEq]
    rw [hof, if_neg k3]
    exact noneS_seg
   ·have k3 : er = 0 := by simpa using k3
    subst k3
    obtain ⟨-, -, -, h4, h5⟩ := hok rfl
    have h5 : s3 = ⟨s.base, s.bytes ++ bytesB x⟩ := congrArg Prod.fst h5
    rw [if_pos rfl] at hof
    have hl3 : s3.bytes.length ≤ 4096 := by rw [h5]; simp only [List.length_append]; omega
    have hb3 : s3.base = base := by rw [h5]; exact hsb
    intros; refine gN ?_
    refine go_ghost (ghost_sub (L' := [.reg 8 [.int .i64 s3.base, .slice A3 s3.bytes.length c3], .reg 6 [.int .i64 0, .slice none 0 0]]) (.cons _ (List.Sublist.refl _))) ?_
    intros; refine gr 42 43 ?_; refine sJ2 c53r10.eq_1 @hw ?_
    (intros; try refine go_st ?_)
    refine go_l ⟨⟨k + 1, s3, G3, A3, c3, ⟨by omega, hg2.trans hg3, hs3, hb3, hl3, hof⟩, eE, eE, eE, eE, rfl⟩, ?_⟩
    refine sI ?_
    omega
  ·have ht : k = l.length := by have := of_decide_eq_false ht; omega
   subst ht
   rw [List.drop_length, ofL] at hof
   refine go_exit ?_
   refine sI ?_
   intros; refine gN ?_
   exact go_l ⟨s, G2, A2, c2, ⟨hg2, hs2, hof⟩, rfl⟩
 rintro e h ⟨s, G2, A2, c2, ⟨hg2, hs2, hof⟩, rfl⟩
 intros
 intros; refine gr 43 44 ?_; refine sJ c53r11.eq_1 ?_
 intros; refine rV ?_; simp only [push_cast, Nat.reduceBEq]
 rw [hof]
 exact ⟨A2, c2, rfl, hs2⟩
def fixS (s : Sg) : Sg × Int := (⟨s.base, s.bytes.take (goodB s)⟩, (s.bytes.length : Int) - (goodB s : Int))
theorem Fix_ok (s : Sg) (cs : List Value) (G : Nat → Option Obj) (hs : SE G s cs) (hb : s.bytes.length ≤ 1000000) : FnO Tryz.prog 71 #[.agg cs.toArray] G [] (fun _ L' r => OwnSE (fixS s) L' r) := by
 have hscan := Scan_ok s cs G hs hb
 have hs0 := hs
 obtain ⟨A, c, rfl, hl, hib⟩ := hs
 have hgl := goodB_le s
 refine F71.fnO (by simp) noRegs_nil (go_of ?_)
 unfold c71
 unfold cellS at hscan hs0 ⊢
 have hw : IntKind.i64.wrap ((s.bytes.length : Int) - (goodB s : Int)) = (s.bytes.length : Int) - (goodB s : Int) := by rw [w64_id] <;> omega
 intros; refine gr 0 0 ?_; refine sJ c71r0.eq_1 ?_
 intros; refine gr 6 11 ?_; refine sJ c71r1.eq_1 ?_
 refine (hscan _ _).mono ?_
 rintro r h' ⟨G1, L', rfl, hg1, u, zc, rfl, -, rfl⟩
 refine sI ?_
 intros
 refine go_ghost (ghost_sub (.cons _ (List.Sublist.refl _))) ?_
 (intros; try refine go_st ?_); refine go_w _ (.cons _ (List.Sublist.refl _)) (by decide) ?_; refine sJ2 c71r2.eq_1 @hw ?_
 refine (ownSg_sl (ahead_ok s (goodB s) _ G1 (SE.le hg1 hs0) hb hgl) _ _).mono ?_
 rintro r h' ⟨G2, L', rfl, hg2, A2, c2, zc2, rfl, -, rfl, hzc2⟩
 refine ⟨grow_L hg2 (.cons _ (.cons _ (List.Sublist.refl _))), ?_⟩
 refine sI ?_
 refine ⟨grow_L hg2 (.cons _ (.cons _ (List.Sublist.refl _))), ?_⟩
 refine sI ?_
 (intros; try refine go_st ?_)
 refine go_ret (retQ_o _ rfl (.cons_cons _ (List.nil_sublist _)) (noRegs_row noRegs_nil) ?_)
 exact ⟨_, zc2, rfl, rfl, hzc2⟩
def cutP (off : Int) (b : Batch) : Bool := decide (b.last < off)
def cutS (s : Sg) (off : Int) : Sg := ⟨s.base, s.bytes.take (allB ((scanB s).takeWhile (cutP off))).length⟩
theorem tw_at {α : Type} {p : α → Bool} : ∀ {l : List α} {k : Nat} {x : α}, (∀ y ∈ l.take k, p y = true) → l[k]? = some x → p x = false → l.takeWhile p = l.take k
 | [], _, _, _, h, _ => by simp at h
 | y :: l, 0, x, _, h, hp => by
  simp at h
  subst h
  rw [List.takeWhile_cons, if_neg (by rw [hp]; simp)]
  rfl
 | y :: l, k + 1, x, ha, h, hp => by
  rw [List.takeWhile_cons, if_pos (ha y (by simp)), List.take_succ_cons, tw_at (k := k) (fun z hz => ha z (by rw [List.take_succ_cons]; exact .tail _ hz)) (by simpa using h) hp]
theorem tw_all {α : Type} {p : α → Bool} : ∀ {l : List α}, (∀ y ∈ l, p y = true) → l.takeWhile p = l
 | [], _ => rfl
 | y :: l, h => by rw [List.takeWhile_cons, if_pos (h y (.head _)), tw_all fun z hz => h z (.tail _ hz)]
theorem Cut_ok (s : Sg) (off : Int) (cs : List Value) (G : Nat → Option Obj) (hs : SE G s cs) (hb : s.bytes.length ≤ 1000000) (ho : I64 off) : FnO Tryz.prog 61 #[.agg cs.toArray, .int .i64 off] G [] (fun _ L' r => OwnSg (cutS s off) L' r) := by
 have hs0 := hs
 obtain ⟨A, c, rfl, hl, hi⟩ := hs
 refine F61.fnO (by simp) noRegs_nil (go_of ?_)
 unfold c61
 unfold cellS at hs0 ⊢
 intros; refine gr 0 0 ?_; refine sJ c61r0.eq_1 ?_
 intro b2 hb2 b3 hb3 b4 hb4
 (intros; try refine go_st ?_)
 refine go_gx (gx_blk_at [_, _] _) ?_
 rintro h' ⟨G1, rfl, hg1, f2⟩
 refine go_gx (gx_blk_at [_] _) ?_
 rintro h' ⟨G2, rfl, hg2, f3⟩
 have f2 := fun j u hu => cellG_le hg2 (f2 j u hu)
 have e3 := f3 0 _ rfl
 rw [add_off] at e3
 have hg02 := hg1.trans hg2
 intros; refine gr 0 0 ?_; refine sJ c61r1.eq_1 ?_
 intro b5 hb5
 refine stX_blk [] [_] rfl (by simp) ⟨rfl, rfl⟩ ?_
 refine sI ?_
 intros; refine gr 8 9 ?_; refine sJ c61r2.eq_1 ?_
 refine ⟨_, ⟨_, [.int .i64 s.base, .slice A s.bytes.length c], rfl, rfl, rfl, fun j u hu => .g (f2 j u hu)⟩, ?_⟩
 refine sI ?_
 refine (each_ok s _ G2 (SE.le hg02 hs0) hb _ _).mono ?_
 rintro r h' ⟨G3, rfl, hg3, b, rfl, hit⟩
 obtain ⟨rr, hsc⟩ := scan_spec s
 have hcut : cutS s off = ⟨s.base, s.bytes.take (allB ((scanB s).takeWhile (cutP off))).length⟩ := rfl
 generalize scanB s = bs at hit hsc hcut
 have hlen := hsc.len
 have hrest : ∀ (fr : List Td) (e : Env) (G' : Nat → Option Obj) (D : List Nat) (k : Nat), Gle G3 G' → bs.takeWhile (cutP off) = bs.take k → e 2 = .pointer (some ⟨b2, 0, none⟩) → e 5 = .pointer (some ⟨b5, 0, none⟩) → e 4 = .pointer (some ⟨b4, 0, none⟩) →
   go none Tryz.prog 20 v61.1 v61.2 (retQ o61 fun v h => OwnSg (cutS s off) h.L v) (Td.s ((SC.reg false c61r7).seq .ret) :: fr) e ⟨G', [.blk b5 [.int .i64 (((allB (bs.take k)).length : Nat) : Int)], .blk b4 [.int .i64 0, .slice none 0 0]], D⟩ := fun fr e G' D k hg htw e2 e5 e4 => by
  have hle := allB_take_le bs k
  refine go_keep [2, 4, 5] ?_
  refine sJ3 @e2 @e4 @e5 ?_
  intros; refine gr 17 20 ?_; refine sJ c61r7.eq_1 ?_
  refine ⟨_, ⟨_, [.int .i64 s.base, .slice A s.bytes.length c], rfl, rfl, rfl, fun j u hu => .g (cellG_le (hg3.trans hg) (f2 j u hu))⟩, ?_⟩
  refine sI ?_
  refine ⟨_, ldN_blk (.head _) rfl, ?_⟩
  refine sI ?_
  refine (ownSg_sl (ahead_ok s (allB (bs.take k)).length _ G' (SE.le (hg02.trans (hg3.trans hg)) hs0) hb (by omega)) _ _).mono ?_
  rintro r h' ⟨G4, L', rfl, hg4, A4, c4, zc4, rfl, -, rfl, hzc4⟩
  refine sI ?_
  refine stX_blk [_, _] [] rfl (by simp) ⟨rfl, rfl⟩ ?_
  refine sI ?_
  (intros; try refine go_st ?_)
  refine go_gx (gx_ne (.cons _ (List.Sublist.refl _))) ?_
  rintro h' ⟨rfl, hne⟩
  refine go_ret (retQ_o (out := [.agg #[.int .i64 s.base, .slice A4 (s.bytes.take (allB (bs.take k)).length).length c4]]) _ ?_ (.cons_cons _ (List.nil_sublist _)) (noRegs_row noRegs_nil) ?_)
  ·simp [o61, resV, Kx.getB, blkO, ldC, Env.set, hne]
   trace_state
  rw [hcut, htw]
  exact ⟨_, zc4, rfl, rfl, hzc4⟩
 refine sI ?_
 (intros; try refine go_st ?_)
 refine go_rf (α := Nat) (fun k G' L' => L' = [.blk b5 [.int .i64 (((allB (bs.take k)).length : Nat) : Int)], .blk b4 [.int .i64 0, .slice none 0 0]] ∧ ∀ y ∈ bs.take k, cutP off y = true)
  (fun ex k G' L' => ex = .exit 0 ∧ L' = [.blk b5 [.int .i64 (((allB (bs.take k)).length : Nat) : Int)], .blk b4 [.int .i64 0, .slice none 0 0]] ∧ bs.takeWhile (cutP off) = bs.take k) (eE) F101.enters (noRegs_blk (noRegs_blk noRegs_nil))
  (fun i G G' L hg h => h) hit (fun G x args h => by obtain ⟨y, _, _, _, rfl⟩ := h; rfl) ⟨rfl, by simp⟩ ?_ ?_ ?_
 ·rintro yl k i args G' L' hki hgl ⟨x, cs, hx, hbe, rfl⟩ ⟨rfl, hall⟩ _
  obtain ⟨rfl, hkl⟩ := range_at hki
  obtain ⟨B, d, rfl, -⟩ := hbe
  have e3' := cellG_le (hg3.trans hgl) e3
  unfold cellH
  refine sI ?_
  intros; refine gr 0 0 ?_; refine sJ c61r3.eq_1 ?_
  intros; refine gr 0 0 ?_; refine sJ c61r4.eq_1 ?_
  intro bb
  refine go_nil (rnd_a ?_)
  intros; refine gr 13 15 ?_; refine sJ c61r5.eq_1 ?_
  refine ⟨_, ⟨_, rfl, .g e3'⟩, ?_⟩
  refine sI ?_
  intros; refine gc ?_; refine sI ?_
  refine gb (fun h1 => ?_) (fun h1 => ?_)
  ·have h1 := of_decide_eq_true h1
   refine go_exit ?_
   refine sI ?_
   exact rnd_e _ (.cons _ (List.Sublist.refl _)) (noRegs_blk (noRegs_blk noRegs_nil)) ⟨rfl, rfl, tw_at hall hx (decide_eq_false (by omega))⟩
  ·have h1 := of_decide_eq_false h1
   have hcp : cutP off x = true := decide_eq_true (by omega)
   intros; refine gN ?_
   intros; refine gr 16 17 ?_; refine sJ c61r6.eq_1 ?_
   refine stX_blk [_] [_] rfl (by simp) ⟨rfl, rfl⟩ ?_
   refine sI ?_
   (intros; try refine go_st ?_)
   refine go_nil (rnd_n _ (.cons _ (List.Sublist.refl _)) (noRegs_blk (noRegs_blk noRegs_nil)) ⟨rfl, fun y hy => ?_⟩)
   rw [List.take_add_one, hx] at hy
   rcases List.mem_append.1 hy with h | h
   ·exact hall y h
   ·simp at h; subst h; exact hcp
 ·rintro G' L' dd hgl ⟨rfl, hall⟩ _
  rw [List.length_range] at hall ⊢
  refine go_b ?_
  refine hrest _ _ _ _ _ hgl ?_ ?_ ?_ ?_
  ·rw [List.take_length] at hall ⊢
   exact tw_all hall
  ·(refine sI ?_; try with_reducible exact True.intro)
  ·(refine sI ?_; try with_reducible exact True.intro)
  ·(refine sI ?_; try with_reducible exact True.intro)
 ·rintro ex k G' L' d _ hgl ⟨rfl, rfl, htw⟩ _
  refine sI ?_
  refine hrest _ _ _ _ _ hgl htw ?_ ?_ ?_
  ·(refine sI ?_; try with_reducible exact True.intro)
  ·(refine sI ?_; try with_reducible exact True.intro)
  ·(refine sI ?_; try with_reducible exact True.intro)
end Go.Proofs.YtppgnokhdpaljaaGreat

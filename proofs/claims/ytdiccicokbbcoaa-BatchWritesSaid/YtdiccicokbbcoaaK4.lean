/- The fourth text of the small logic: operations with their types resolved, and what each asks. No condition. -/
import Derived.Test.YtdiccicokbbcoaaK3
import Derived.ChangeKeysEq
set_option linter.unusedSimpArgs false
set_option linter.unusedVariables false
namespace Go.Kx
open Go Go.RowKit

inductive SOp where
  | nop
  | mv (d : Nat) (x : O)
  | pick (d : Nat) (c x y : O)
  | bin (d : Nat) (op : BinOp) (x y : O)
  | eqb (d : Nat) (ne : Bool) (x y : O)
  | eqf (d : Nat) (ne : Bool) (ks : List Nat) (x y : O)
  | un (d : Nat) (op : UnOp) (x : O)
  | isn (d : Nat) (ne : Bool) (x : O)
  | bl0 (d : Nat)
  | cvI (d : Nat) (k : IntKind) (x : O)
  | ext (d : Nat) (x : O) (i : Nat)
  | fld (d : Nat) (x : O) (o : Nat) (n : Option Nat)
  | bld (d : Nat) (z : List Value) (ps : List (Nat × Nat × O))
  | mkf (d : Nat) (f : Fn) (cs : List O)
  | len (d : Nat) (str : Bool) (x : O)
  | mm (d : Nat) (mx : Bool) (x y : O)
  | nck (d : Nat) (x : O)
  | ixA (d : Nat) (x i : O) (sz : Nat)
  | flA (d : Nat) (x : O) (o : Nat)
  | sl (d : Nat) (x : O) (lo hi mx : Option O) (sz : Nat)
  | alR (s : Nat) (z : List Value)
  | bxR (s : Nat) (x : O)
  | ldR (d s o : Nat) (n : Option Nat)
  | stR (s o n : Nat) (x : O)
  | al (d : Nat) (z : List Value)
  | bx (d : Nat) (x : O)
  | ld (d : Nat) (x : O) (n : Option Nat)
  | st (x : O) (n : Nat) (y : O)
  | bls (d : Nat) (e : TypeId) (n sz : Nat) (z : List Value) (ps : List (Nat × Nat × O))
  | app (d : Nat) (x y : O) (e : TypeId) (sz nb : Nat)
  | call (d f : Nat) (xs : List O)
  | cav (d : Nat) (f : O) (xs : List O)
  | ixP (d : Nat) (x i : O) (n sz : Nat)
  | ixV (d : Nat) (x i : O) (n sz : Nat) (k : Option Nat)
  | cvS (d : Nat) (x : O)

def dstS : SOp → Nat
  | .mv d _ | .pick d _ _ _ | .bin d _ _ _ | .eqb d _ _ _ | .eqf d _ _ _ _ | .un d _ _ | .isn d _ _ | .bl0 d | .cvI d _ _ | .ext d _ _ | .fld d _ _ _ | .bld d _ _ | .mkf d _ _ | .len d _ _ | .mm d _ _ _ | .nck d _
  | .ixA d _ _ _ | .flA d _ _ | .sl d _ _ _ _ _ | .ldR d _ _ _ | .al d _ | .bx d _ | .ld d _ _ | .bls d _ _ _ _ _ | .app d _ _ _ _ _ | .call d _ _ | .cav d _ _ | .ixP d _ _ _ _ | .ixV d _ _ _ _ _ | .cvS d _ => d
  | .nop | .alR _ _ | .bxR _ _ | .stR _ _ _ _ | .st _ _ _ => 99999

def binV (op : BinOp) : Value → Value → Option Value
  | .int k a, .int k' b =>
    match op with
    | .shl => if 0 ≤ b then some (.int k (k.wrap (a * 2 ^ (min b.toNat k.bits)))) else none
    | .shr => if 0 ≤ b then some (.int k (a.fdiv (2 ^ (min b.toNat k.bits)))) else none
    | op =>
      if k = k' then
        match op with
        | .add => some (.int k (k.wrap (a + b)))
        | .sub => some (.int k (k.wrap (a - b)))
        | .mul => some (.int k (k.wrap (a * b)))
        | .quo => if b = 0 then none else some (.int k (k.wrap (a.tdiv b)))
        | .rem => if b = 0 then none else some (.int k (a.tmod b))
        | .and => some (.int k (k.wrap (BitVec.ofInt k.bits a &&& BitVec.ofInt k.bits b).toNat))
        | .or => some (.int k (k.wrap (BitVec.ofInt k.bits a ||| BitVec.ofInt k.bits b).toNat))
        | .xor => some (.int k (k.wrap (BitVec.ofInt k.bits a ^^^ BitVec.ofInt k.bits b).toNat))
        | .andNot => some (.int k (k.wrap (BitVec.ofInt k.bits a &&& ~~~ BitVec.ofInt k.bits b).toNat))
        | .eql => some (.bool (decide (a = b)))
        | .neq => some (.bool (decide (a ≠ b)))
        | .lss => some (.bool (decide (a < b)))
        | .leq => some (.bool (decide (a ≤ b)))
        | .gtr => some (.bool (decide (b < a)))
        | .geq => some (.bool (decide (b ≤ a)))
        | _ => none
      else none
  | .string a, .string b =>
    match op with
    | .eql => some (.bool (a.toList == b.toList))
    | .neq => some (.bool !(a.toList == b.toList))
    | _ => none
  | _, _ => none
theorem binV_run {P : Program} {op : BinOp} {t : TypeId} {x y v : Value} (w : World) (hv : binV op x y = some v) : (binOp op t x y).run P w = .ok v w := by
  unfold binV at hv
  split at hv
  · rename_i k a k' b
    cases op <;> simp only at hv <;>
      first
      | (split at hv
         · cases hv
           rename_i hb
           have : ¬ b < 0 := by omega
           simp [binOp, Op.shift, this]
         · cases hv)
      | (split at hv
         · rename_i hk
           subst hk
           first
           | (cases hv; first | (simp [binOp, Op.intArith]; done) | (simp [binOp, Op.intBits]; done) | (simp [binOp, Op.intCmp]; first | rfl | (congr 1; done) | skip))
           | (split at hv
              · cases hv
              · rename_i hb
                cases hv
                simp [binOp, Op.intDiv, hb])
         · cases hv)
      | cases hv
  · cases op <;> simp only at hv <;> first | (cases hv; done) | (cases hv; simp [binOp, Op.stringOp])
  · cases hv

def unV (op : UnOp) : Value → Option Value
  | .int k n =>
    match op with
    | .neg => some (.int k (k.wrap (0 - n)))
    | .xor => some (.int k (k.wrap (BitVec.ofInt k.bits (if k.signed then -1 else k.max) ^^^ BitVec.ofInt k.bits n).toNat))
    | _ => none
  | .bool b =>
    match op with
    | .not => some (.bool !b)
    | _ => none
  | _ => none
theorem unV_run {P : Program} {op : UnOp} {x v : Value} (w : World) (hv : unV op x = some v) : (Op.unary op x).run P w = .ok v w := by
  unfold unV at hv
  split at hv
  · cases op <;> simp only at hv <;> cases hv
    · simp [Op.unary, Op.intArith]
    · simp [Op.unary, Op.intBits]
  · cases op <;> simp only at hv <;> cases hv
    simp [Op.unary]
  · cases hv
def pickV (t : Bool) : Value → Value → Value
  | .bool p, .bool q => .bool (if t then p else q)
  | x, y => if t then x else y
theorem pickV_eq (t : Bool) (x y : Value) : pickV t x y = if t then x else y := by
  unfold pickV
  split
  · cases t <;> rfl
  · rfl
def eqC : List Nat → List Value → List Value → Option Bool
  | [], [], [] => some true
  | 0 :: ks, .int k a :: xs, .int k' b :: ys => if k = k' then (eqC ks xs ys).map fun t => decide (a = b) && t else none
  | 1 :: ks, .bool a :: xs, .bool b :: ys => (eqC ks xs ys).map fun t => (a == b) && t
  | 2 :: ks, .string a :: xs, .string b :: ys => (eqC ks xs ys).map fun t => (a.toList == b.toList) && t
  | _, _, _ => none
/-- The fields of a struct that is compared cell by cell. -/
def flatK (P : Program) : Nat → List Field → Option (List Nat)
  | _, [] => some []
  | o, f :: fs =>
    if f.offset = o ∧ f.name ≠ "_" then
      match P.underlying f.type with
      | some (.int _) => (flatK P (o + 1) fs).map (0 :: ·)
      | some .bool => (flatK P (o + 1) fs).map (1 :: ·)
      | some .string => (flatK P (o + 1) fs).map (2 :: ·)
      | _ => none
    else none
def flatD : TypeDesc → Bool
  | .struct _ | .array _ _ => false
  | _ => true
theorem part_one {P : Program} {t : TypeId} {d : TypeDesc} (hu : P.underlying t = some d) (hd : flatD d = true) (cs : Array Value) (o : Nat) (v : Value) (w : World) (hv : cs[o]? = some v) :
    (part t cs o).run P w = .ok v w := by
  have hagg : (isAgg t).run P w = .ok false w := by
    simp only [isAgg, Sem.run_bind, run_underlying hu, Result.andThen_ok]
    cases d <;> first | rfl | cases hd
  simp [part, hagg, hv]
theorem eqC_run {P : Program} (d : Nat) (xs ys : List Value) (w : World) : ∀ (fs : List Field) (ks : List Nat) (o : Nat) (t : Bool), flatK P o fs = some ks → eqC ks (xs.drop o) (ys.drop o) = some t →
    (Op.eqFields (d + 1) xs.toArray ys.toArray fs).run P w = .ok t w
  | [], ks, o, t, hk, ht => by
    simp only [flatK, Option.some.injEq] at hk
    subst hk
    unfold eqC at ht
    split at ht <;> simp_all [Op.eqFields]
  | f :: fs, ks, o, t, hk, ht => by
    simp only [flatK] at hk
    split at hk
    · rename_i hf
      obtain ⟨hfo, hfn⟩ := hf
      have key : ∀ (k : Nat) (dd : TypeDesc), P.underlying f.type = some dd → flatD dd = true → (flatK P (o + 1) fs).map (k :: ·) = some ks →
          (∀ x y ks' t', eqC (k :: ks') (x :: xs.drop (o + 1)) (y :: ys.drop (o + 1)) = some t' → ∃ b t'', eqC ks' (xs.drop (o + 1)) (ys.drop (o + 1)) = some t'' ∧ t' = (b && t'') ∧ (Op.equalIn (d + 1) f.type x y).run P w = .ok b w) →
          (Op.eqFields (d + 1) xs.toArray ys.toArray (f :: fs)).run P w = .ok t w := by
        intro k dd hu hd hm hkk
        cases hfs : flatK P (o + 1) fs with
        | none => simp [hfs] at hm
        | some ks' =>
          simp [hfs] at hm
          subst hm
          have hx : ∃ x, xs.drop o = x :: xs.drop (o + 1) ∧ xs[o]? = some x := by
            cases hd0 : xs.drop o with
            | nil => rw [hd0] at ht; unfold eqC at ht; split at ht <;> simp_all
            | cons x r =>
              have h1 : xs[o]? = some x := by rw [← List.head?_drop, hd0]; rfl
              have h2 : xs.drop (o + 1) = r := by rw [← List.tail_drop, hd0]; rfl
              exact ⟨x, by rw [h2], h1⟩
          have hy : ∃ y, ys.drop o = y :: ys.drop (o + 1) ∧ ys[o]? = some y := by
            cases hd0 : ys.drop o with
            | nil => rw [hd0] at ht; unfold eqC at ht; split at ht <;> simp_all
            | cons x r =>
              have h1 : ys[o]? = some x := by rw [← List.head?_drop, hd0]; rfl
              have h2 : ys.drop (o + 1) = r := by rw [← List.tail_drop, hd0]; rfl
              exact ⟨x, by rw [h2], h1⟩
          obtain ⟨x, hx, hx'⟩ := hx
          obtain ⟨y, hy, hy'⟩ := hy
          rw [hx, hy] at ht
          obtain ⟨b, t'', h1, rfl, h3⟩ := hkk x y ks' t ht
          have ih := eqC_run d xs ys w fs ks' (o + 1) t'' hfs h1
          have p1 := part_one hu hd xs.toArray f.offset x w (by rw [hfo]; simpa using hx')
          have p2 := part_one hu hd ys.toArray f.offset y w (by rw [hfo]; simpa using hy')
          simp only [Op.eqFields, ne_eq, hfn, not_false_eq_true, if_true, Sem.run_bind, p1, p2, h3, Result.andThen_ok]
          cases b <;> simp [ih]
      split at hk
      · rename_i kk hu
        refine key 0 _ hu rfl hk ?_
        intro x y ks' t' h
        cases x <;> cases y <;> simp only [eqC] at h <;> try (cases h; done)
        split at h
        · rename_i he
          subst he
          simp only [Option.map_eq_some_iff] at h
          obtain ⟨t'', h1, rfl⟩ := h
          exact ⟨_, t'', h1, rfl, by rw [run_equalIn_int w d _ _ _ _ _ hu]; congr 1⟩
        · cases h
      · rename_i hu
        refine key 1 _ hu rfl hk ?_
        intro x y ks' t' h
        cases x <;> cases y <;> simp only [eqC, Option.map_eq_some_iff] at h <;> try (cases h; done)
        obtain ⟨t'', h1, rfl⟩ := h
        exact ⟨_, t'', h1, rfl, run_equalIn_bool' w d _ _ _ hu⟩
      · rename_i hu
        refine key 2 _ hu rfl hk ?_
        intro x y ks' t' h
        cases x <;> cases y <;> simp only [eqC, Option.map_eq_some_iff] at h <;> try (cases h; done)
        obtain ⟨t'', h1, rfl⟩ := h
        exact ⟨_, t'', h1, rfl, run_equalIn_string w d _ _ _ hu⟩
      · cases hk
    · cases hk

/-- Parts laid into cells. -/
def fillL : List (Nat × Nat × List Value) → List Value → Option (List Value)
  | [], cs => some cs
  | (o, n, xs) :: r, cs => if xs.length = n ∧ o + n ≤ cs.length then fillL r (splice cs o xs) else none
theorem set_splice : ∀ (xs : List Value) (k o : Nat) (cs : List Value), o + k + xs.length ≤ cs.length → ((xs.zipIdx k).foldl (fun (cs : Array Value) p => cs.setIfInBounds (o + p.2) p.1) cs.toArray) = (splice cs (o + k) xs).toArray
  | [], k, o, cs, h => by simp [splice]
  | x :: xs, k, o, cs, h => by
    simp only [List.length_cons] at h
    simp only [List.zipIdx_cons, List.foldl_cons]
    have e1 : cs.toArray.setIfInBounds (o + k) x = (cs.set (o + k) x).toArray := by simp
    rw [e1, set_splice xs (k + 1) o (cs.set (o + k) x) (by simp; omega)]
    congr 1
    unfold splice
    have h1 : (cs.set (o + k) x).take (o + (k + 1)) = cs.take (o + k) ++ [x] := by
      apply List.ext_getElem?
      intro j
      simp only [List.getElem?_take, List.getElem?_set, List.getElem?_append, List.length_take]
      by_cases hj : j < o + k
      · have : ¬ o + k = j := by omega
        simp [hj, this, show j < o + (k + 1) by omega, show j < cs.length by omega]
        intro hm
        omega
      · by_cases hj2 : j = o + k
        · subst hj2; simp [show o + k < o + (k + 1) by omega, show o + k < cs.length by omega, show ¬ (o + k < min (o + k) cs.length) by omega, show o + k - min (o + k) cs.length = 0 by omega]
        · simp [show ¬ j < o + (k + 1) by omega, show ¬ (j < min (o + k) cs.length) by omega, show j - min (o + k) cs.length ≠ 0 by omega]
    have h2 : (cs.set (o + k) x).drop (o + (k + 1) + xs.length) = cs.drop (o + k + (x :: xs).length) := by
      apply List.ext_getElem?
      intro j
      simp only [List.getElem?_drop, List.getElem?_set, List.length_cons]
      have : ¬ o + k = o + (k + 1) + xs.length + j := by omega
      simp only [this, if_false]
      congr 1
      omega
    rw [h1, h2]
    simp
/-- Arrays of numbers, compared. -/
theorem eqI_run {P : Program} (d : Nat) {el : TypeId} {k : IntKind} (xs ys : Array Value) (w : World) (hu : P.underlying el = some (.int k)) : ∀ (is : List Nat) (o : Nat) (t : Bool), is = List.range' o is.length → eqC (List.replicate is.length 0) (xs.toList.drop o) (ys.toList.drop o) = some t →
    (Op.eqItems (d + 1) el 1 xs ys is).run P w = .ok t w
  | [], o, t, _, ht => by
    simp only [List.length_nil, List.replicate_zero] at ht
    unfold eqC at ht
    split at ht <;> simp_all [Op.eqItems]
  | j :: is, o, t, hi, ht => by
    simp only [List.length_cons, List.range'_succ, List.cons.injEq] at hi
    obtain ⟨rfl, hi⟩ := hi
    simp only [List.length_cons, List.replicate_succ] at ht
    cases hx : xs.toList.drop j with
    | nil => rw [hx] at ht; simp [eqC] at ht
    | cons x xr =>
      cases hy : ys.toList.drop j with
      | nil => rw [hx, hy] at ht; cases x <;> simp [eqC] at ht
      | cons y yr =>
        rw [hx, hy] at ht
        have x1 : xs.toList[j]? = some x := by rw [← List.head?_drop, hx]; rfl
        have x2 : xs.toList.drop (j + 1) = xr := by rw [← List.tail_drop, hx]; rfl
        have y1 : ys.toList[j]? = some y := by rw [← List.head?_drop, hy]; rfl
        have y2 : ys.toList.drop (j + 1) = yr := by rw [← List.tail_drop, hy]; rfl
        cases x <;> cases y <;> simp only [eqC] at ht <;> try (cases ht; done)
        split at ht
        · rename_i he
          subst he
          simp only [Option.map_eq_some_iff] at ht
          obtain ⟨t'', h1, rfl⟩ := ht
          rw [← x2, ← y2] at h1
          have ih := eqI_run d xs ys w hu is (j + 1) t'' hi h1
          have p1 := part_one hu rfl xs j _ w (by simpa using x1)
          have p2 := part_one hu rfl ys j _ w (by simpa using y1)
          simp only [Op.eqItems, Nat.mul_one, Sem.run_bind, p1, p2, Result.andThen_ok]
          rw [run_equalIn_int w d _ _ _ _ _ hu]
          simp only [Result.andThen_ok]
          rename_i n m
          by_cases hnm : n = m <;> simp [hnm, ih]
        · cases ht
end Go.Kx
